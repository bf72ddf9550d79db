/- What the functions compute that the laws of this seat Zj. -/
import Derived.Test.YtannaphhhkncoaaGreatWalk1
import Derived.OpenShut
import Derived.ShutString
import Derived.ChangeOld
import Derived.SizedLaws
import Derived.ChangeOld
import Derived.Lib.Bytealg
import Derived.Lib.Overlaps
import Derived.OpenShut
import Derived.RecoverIn
import Derived.ShutString
import Derived.SizedLaws
set_option linter.unusedVariables false
set_option linter.unusedSimpArgs false
set_option linter.unusedSectionVars false
set_option maxRecDepth 100000
namespace Go.Proofs.YtannaphhhkncoaaGreat.Fw
open Go.RowKit Go.Proofs
variable {P : Program} {F : Fr} {N : Nat} {ρ ρ' : Nat → Value} {s : FS} {a : Act} {w w' : World} {V V' : View}
end Go.Proofs.YtannaphhhkncoaaGreat.Fw
namespace Go.Proofs.YtannaphhhkncoaaGreat.Fw
open Go.RowKit Go.Proofs
structure Good (e : Evt) : Prop where
 base : Ik e
 dep : Qk e
 obj : Ez (e.orep, e.oseq)
 dir : Ez (e.drep, e.dseq)
 gone : (∀ x ∈ e.gone.l, Ez x) ∧ e.gone.l.length ≤ 8
 basel : (∀ x ∈ e.base.l, Ez x) ∧ e.base.l.length ≤ 8
 name : e.name.length ≤ 12
 off : 0 ≤ e.off ∧ e.off ≤ 200
 data : e.data.length ≤ 200
 ward : 0 ≤ e.ward ∧ e.ward ≤ 4
theorem P7 {a : Vc} {r : Int} {q : Nat} (hd : ∀ i, i < 8 → a i ≤ 1048576) (h : Cm a r q = true) : Ez (r, q) := by
 have h := of_decide_eq_true h;unfold Mk at h;split at h
 · rename_i hr;have := hd (r - 1).toNat (by omega);exact ⟨by simp only; omega, by simp only; omega, by simp only; omega⟩
 · omega
theorem Gn {r : Int} {q : Nat} (h : Ce r q = true) : Ez (r, q) := by
 obtain ⟨rfl, rfl⟩ := of_decide_eq_true h;exact ⟨by decide, by decide, by decide⟩
theorem Aq8 {a : Vc} {l : List Ca} (hd : ∀ i, i < 8 → a i ≤ 1048576) (h : Gj a l = true) : ∀ x ∈ l, Ez x := by
 have hr : Al0 a l := by simpa [Gj] using h
 intro x hx;obtain ⟨j, hj, rfl⟩ := List.getElem_of_mem hx;exact P7 hd (hr j hj).1
theorem Fm {l : List Ca} (h : (l.length : Int) = 0) : (∀ x ∈ l, Ez x) ∧ l.length ≤ 8 := by
 have : l = [] := List.length_eq_zero_iff.1 (by omega);subst this; simp
theorem Wy {s : List UInt8} (h : Ef s = true) : s.length ≤ 12 := by
 unfold Ef at h;simp only [Bool.and_eq_true, decide_eq_true_eq] at h;exact h.1.2.1
theorem Uz {n : Int} (h : Eb n = true) : 0 ≤ n ∧ n ≤ 200 := of_decide_eq_true h
theorem Xh {a : Vc} {l : List Ca} {n : Int} (hd : ∀ i, i < 8 → a i ≤ 1048576) (hn : n ≤ 8) (h : Gv l n a = true) : (∀ x ∈ l, Ez x) ∧ l.length ≤ 8 := by
 unfold Gv at h;simp only [Bool.and_eq_true, decide_eq_true_eq] at h;exact ⟨Aq8 hd h.2, by omega⟩
theorem Fl {s : List UInt8} {n : Nat} (h : s = []) : s.length ≤ n := by subst h; simp
theorem Wo {e : Evt} (hd : ∀ i, i < 8 → e.dep i ≤ 1048576) (h : Ed e = true) : Ez (e.drep, e.dseq) := by
 unfold Ed at h;rcases Bool.or_eq_true_iff.1 h with h | h
 · exact Gn h
 · exact P7 hd h
theorem Yx {e : Evt} (h : Cc e = true) : Good e := by
 have hB : Ik e := Classical.byContradiction fun hn => by rw [Mt hn] at h; cases h
 have hD : Qk e := Classical.byContradiction fun hn => by rw [Alr hn] at h; cases h
 rw [F7 hB hD] at h;have hk : e.kind = 1 ∨ e.kind = 2 ∨ e.kind = 3 ∨ e.kind = 4 ∨ e.kind = 5 ∨ e.kind = 6 ∨ e.kind = 7 ∨ e.kind = 8 ∨ e.kind = 9 := by have := hB.2.2.2.2.2; omega
 have w0 : ∀ {n : Int}, n = 0 → 0 ≤ n ∧ n ≤ 4 := fun h => by omega
 have o0 : ∀ {n : Int}, n = 0 → 0 ≤ n ∧ n ≤ 200 := fun h => by omega
 rcases hk with k | k | k | k | k | k | k | k | k
 ·
  rw [A10 k, Ald k] at h;simp only [Ar, Bool.and_eq_true, Bool.or_eq_true, decide_eq_true_eq, true_or, false_or, true_and, Bool.false_eq_true, reduceCtorEq, and_true] at h;obtain ⟨⟨m1, m3, m4, m5, m6, m7⟩, k1, k2⟩ := h;exact ⟨hB, hD, Gn m1, Wo hD k1, Fm m3, Fm m4, Wy k2, o0 m5, Fl m6, w0 m7⟩
 ·
  rw [A1z k, Alc k] at h;simp only [Ar, Bool.and_eq_true, Bool.or_eq_true, decide_eq_true_eq, true_or, false_or, true_and, Bool.false_eq_true, reduceCtorEq, and_true] at h;obtain ⟨⟨m1, m3, m4, m5, m6, m7⟩, k1, k2⟩ := h;exact ⟨hB, hD, Gn m1, Wo hD k1, Fm m3, Fm m4, Wy k2, o0 m5, Fl m6, w0 m7⟩
 ·
  rw [A7w k, Re k] at h;simp only [Ar, Bool.and_eq_true, Bool.or_eq_true, decide_eq_true_eq, true_or, false_or, true_and, Bool.false_eq_true, reduceCtorEq, and_true] at h;obtain ⟨⟨⟨m2, mn⟩, m3, m7⟩, k1, k2, k3, k4, k5, k6⟩ := h;exact ⟨hB, hD, P7 hD k1, Gn m2, Fm m3, Xh hD (by decide) k2, Fl mn, Uz k3, by have := Uz k5; omega, w0 m7⟩
 ·
  rw [A1y k, U8 k] at h;simp only [Ar, Bool.and_eq_true, Bool.or_eq_true, decide_eq_true_eq, true_or, false_or, true_and, Bool.false_eq_true, reduceCtorEq, and_true] at h;obtain ⟨⟨⟨m2, mn⟩, m3, m6, m7⟩, k1, k2, k3⟩ := h;exact ⟨hB, hD, P7 hD k1, Gn m2, Fm m3, Xh hD (by decide) k2, Fl mn, Uz k3, Fl m6, w0 m7⟩
 ·
  rw [A7v k, Rd k] at h;simp only [Ar, Bool.and_eq_true, Bool.or_eq_true, decide_eq_true_eq, true_or, false_or, true_and, Bool.false_eq_true, reduceCtorEq, and_true] at h;obtain ⟨⟨⟨m2, mn⟩, m3, m5, m7⟩, k1, k2, k3, k4⟩ := h;exact ⟨hB, hD, P7 hD k1, Gn m2, Fm m3, Xh hD (by decide) k2, Fl mn, o0 m5, by have := Uz k4; omega, w0 m7⟩
 ·
  rw [A1x k, Alb k] at h;simp only [Ar, Bool.and_eq_true, Bool.or_eq_true, decide_eq_true_eq, true_or, false_or, true_and, Bool.false_eq_true, reduceCtorEq, and_true] at h;obtain ⟨⟨⟨m2, mn⟩, m4, m5, m6, m7⟩, k1, k2⟩ := h;exact ⟨hB, hD, P7 hD k1, Gn m2, Xh hD (by decide) k2, Fm m4, Fl mn, o0 m5, Fl m6, w0 m7⟩
 ·
  rw [A1w k, Ala k] at h;simp only [Ar, Bool.and_eq_true, Bool.or_eq_true, decide_eq_true_eq, true_or, false_or, true_and, Bool.false_eq_true, reduceCtorEq, and_true] at h;obtain ⟨⟨m4, m5, m6, m7⟩, k1, k2, k3, k4⟩ := h;exact ⟨hB, hD, P7 hD k1, Wo hD k3, Xh hD (by decide) k2, Fm m4, Wy k4, o0 m5, Fl m6, w0 m7⟩
 ·
  rw [A1v k, Ak9 k] at h;simp only [Ar, Bool.and_eq_true, Bool.or_eq_true, decide_eq_true_eq, true_or, false_or, true_and, Bool.false_eq_true, reduceCtorEq, and_true] at h;obtain ⟨⟨m1, ⟨m2, mn⟩, m3, m4, m5, m6⟩, k1, k2⟩ := h;exact ⟨hB, hD, Gn m1, Gn m2, Fm m3, Fm m4, Fl mn, o0 m5, Fl m6, by omega⟩
 ·
  rw [A1u k, Ak8 k] at h;simp only [Ar, Bool.and_eq_true, Bool.or_eq_true, decide_eq_true_eq, true_or, false_or, true_and, Bool.false_eq_true, reduceCtorEq, and_true] at h;obtain ⟨m1, ⟨m2, mn⟩, m3, m4, m5, m6, m7⟩ := h;exact ⟨hB, hD, Gn m1, Gn m2, Fm m3, Fm m4, Fl mn, o0 m5, Fl m6, w0 m7⟩
def Aka (f g : Bool) (y z : Nat) (a b : List UInt8) (k : Nat) : FS := mk [(13, .pv (.i .i64 k)), (12, .pv (.i .i64 a.length)), (0, .pv (.sl f y (Am a))), (1, .pv (.sl g z (Am b)))] []
theorem Alu {a : List UInt8} {k : Nat} (h : k < a.length) : (Am a)[k]? = some [.i .u8 ((a.getD k 0).toNat)] := by
 simp [Am, List.getD_eq_getElem?_getD, List.getElem?_eq_getElem h]
theorem Ahf {a b : List UInt8} (hl : a.length = b.length) (h : ∀ j, j < a.length → a.getD j 0 = b.getD j 0) : a = b := by
 apply List.ext_getElem hl;intro j h1 h2;have := h j h1
 rwa [List.getD_eq_getElem?_getD, List.getD_eq_getElem?_getD, List.getElem?_eq_getElem h1, List.getElem?_eq_getElem h2] at this
set_option maxHeartbeats 1000000 in
theorem A8p {p q : SV} {f g : Bool} {y z : Nat} {a b : List UInt8} {h d} (hx : Ct h [p, q] = [.pv (.sl f y (Am a)), .pv (.sl g z (Am b))]) (hl : Bc [p, q] = true) (hy : a = [] ∨ y = 1) (hz : b = [] ∨ z = 1) (hn : a.length ≤ 400000) (hn' : b.length ≤ 400000) :
 FunOk Tryz.prog 100 [p, q] h d (.pv (.b (decide (a = b)))) [] := by
 refine Cx Aq fn100 (by simp) hl rfl fun F => ?_;rw [hx];by_cases hlen : a.length = b.length
 · have hle : (a.length : Int) = (b.length : Int) := by omega
   (try simp only [Ak, Aj, Ai, Ah, Ag, Af, Ae, Ad]); simp (maxSteps := 10000000) (disch := omega) only [ir100, A0, hle, go_sem]
   refine A1 Aq (Aka f g y z a b) (fun k => k ≤ a.length ∧ ∀ j, j < k → a.getD j 0 = b.getD j 0) (fun k => a.length - k) 0 (by simp) (An ?_ ?_) fun k hk => ?_
   · (try simp only [Ak, Aj, Ai, Ah, Ag, Af, Ae, Ad]); simp (maxSteps := 10000000) (disch := omega) only [A0, hle, go_sem]
   · (try simp only [Ak, Aj, Ai, Ah, Ag, Af, Ae, Ad]); simp (maxSteps := 10000000) (disch := omega) only [go_sem]
   obtain ⟨hk1, hk2⟩ := hk;by_cases hlt : k < a.length
   · have hy1 : y = 1 := hy.resolve_left fun e => by subst e; simp at hlt
     have hz1 : z = 1 := hz.resolve_left fun e => by subst e; rw [List.length_nil] at hlen; omega
     subst hy1; subst hz1;have h1 := Alu hlt;have h2 := Alu (a := b) (k := k) (by omega);have hb : k < b.length := by omega
     by_cases hd : a.getD k 0 = b.getD k 0
     · rw [← hd] at h2
       (try simp only [Ak, Aj, Ai, Ah, Ag, Af, Ae, Ad]); simp (maxSteps := 10000000) (disch := omega) only [Aka, A0, hlen, h1, h2, Om, go_sem]
       refine Al (k + 1) _ _ rfl ⟨by omega, fun j hj => ?_⟩ (by omega) ?_ ?_
       · by_cases e : j = k
         · subst e; exact hd
         · exact hk2 j (by omega)
       · (try simp only [Ak, Aj, Ai, Ah, Ag, Af, Ae, Ad]); simp (maxSteps := 10000000) (disch := omega) only [go_sem]
       · (try simp only [Ak, Aj, Ai, Ah, Ag, Af, Ae, Ad]); simp (maxSteps := 10000000) (disch := omega) only [go_sem]
     · have hne : ¬ a = b := fun e => hd (by rw [e]);have hdn : ¬ (((a.getD k 0).toNat : Int) = ((b.getD k 0).toNat : Int)) := fun e => hd (UInt8.toNat_inj.1 (by omega))
       (try simp only [Ak, Aj, Ai, Ah, Ag, Af, Ae, Ad]); simp (maxSteps := 10000000) (disch := omega) only [Aka, A0, hlen, h1, h2, Om, hdn, hne, go_sem]
   · obtain rfl : k = a.length := by omega
     have he := Ahf hlen hk2;subst he
     (try simp only [Ak, Aj, Ai, Ah, Ag, Af, Ae, Ad]); simp (maxSteps := 10000000) (disch := omega) only [Aka, A0, go_sem]
 · have hle : ¬ (a.length : Int) = (b.length : Int) := by omega
   have hne : ¬ a = b := fun e => hlen (by rw [e])
   (try simp only [Ak, Aj, Ai, Ah, Ag, Af, Ae, Ad]); simp (maxSteps := 10000000) (disch := omega) only [ir100, A0, hle, hne, go_sem]
theorem Aci {x : Ca} (h : Ez x) : Abl (Yw x) = x := by
 obtain ⟨h1, h2, h3⟩ := h;obtain ⟨r, q⟩ := x;simp only at h1 h2 h3;by_cases hz : r = 0 ∧ q = 0
 · obtain ⟨rfl, rfl⟩ := hz; rfl
 · have e : Yw (r, q) = UInt8.ofNat r.toNat :: E9 q := if_neg hz;rw [e];unfold Abl;have ea : Dx (E9 q) = (q, 0) := X7 (by omega);rw [List.drop_succ_cons, List.drop_zero, ea, if_pos ⟨by simp, rfl, h3⟩];simp only [List.getD_cons_zero];rw [UInt8.toNat_ofNat'];exact Prod.ext (by simp only; omega) rfl
def Aa0 (l : List Ca) (k : Nat) : FS := mk [(22, .pv (.i .i64 k)), (21, .pv (.i .i64 l.length)), (20, .os 14), (8, .os 40), (0, .pv (.sl false 1 (Am (Xi l))))] [(40, some (.row 2 ((l.take k).map Ga))), (14, some (.row 1 ((l.map Yw).map bE)))]
mutual
theorem Aeg {π : Nat → Nat} : ∀ {x : SV}, x.closed = true → x.rn π = x
 | .pv _, _ => rfl
 | .vec _ _, _ => rfl
 | .pi _ _ _ _, _ => rfl
 | .dead, _ => rfl
 | .agg l, h => by simp only [SV.closed] at h; simp only [SV.rn, Sk h]
 | .tup l, h => by simp only [SV.closed] at h; simp only [SV.rn, Sk h]
 | .fn f l, h => by simp only [SV.closed] at h; simp only [SV.rn, Sk h]
 | .p _ _, h => by simp [SV.closed] at h
 | .ps _ _, h => by simp [SV.closed] at h
 | .pr _ _ _ _, h => by simp [SV.closed] at h
 | .os _, h => by simp [SV.closed] at h
 | .ov _ _ _ _, h => by simp [SV.closed] at h
theorem Sk {π : Nat → Nat} : ∀ {l : List SV}, SV.closedL l = true → SV.rnL π l = l
 | [], _ => rfl
 | x :: l, h => by
   simp only [SV.closedL, Bool.and_eq_true] at h;simp only [SV.rnL, Aeg h.1, Sk h.2]
end
mutual
theorem A73 : ∀ {x : SV}, x.closed = true → tn x = []
 | .pv _, _ => rfl
 | .vec _ _, _ => rfl
 | .pi _ _ _ _, _ => rfl
 | .dead, _ => rfl
 | .agg l, h => by simp only [SV.closed] at h; simp only [tn, Ob h]
 | .tup l, h => by simp only [SV.closed] at h; simp only [tn, Ob h]
 | .fn f l, h => by simp only [SV.closed] at h; simp only [tn, Ob h]
 | .p _ _, h => by simp [SV.closed] at h
 | .ps _ _, h => by simp [SV.closed] at h
 | .pr _ _ _ _, h => by simp [SV.closed] at h
 | .os _, h => by simp [SV.closed] at h
 | .ov _ _ _ _, h => by simp [SV.closed] at h
theorem Ob : ∀ {l : List SV}, SV.closedL l = true → Bd l = []
 | [], _ => rfl
 | x :: l, h => by
   simp only [SV.closedL, Bool.and_eq_true] at h;simp only [Bd, A73 h.1, Ob h.2, List.append_nil]
end
theorem Aj8 (a m : Nat) : sw1 a m a = m := if_pos rfl
theorem FunOk.io {P : Program} {f : Nat} {a : List SV} {c c' x : SV} (hf : ∀ h d, h 900 = some (.var c) → FunOk P f (.p 900 0 :: a) h d x [.upd 900 (.var c')]) (ha : SV.closedL a = true) (hx : x.closed = true) (hc : c.closed = true) (hc' : c'.closed = true) {g : Nat} {h : Nat → Option Blk} {d : Nat} (hg : h g = some (.var c)) :
 FunOk P f (.p g 0 :: a) h d x [.upd g (.var c')] := by
 have h1 := (hf (fun k => h (sw1 900 g k)) d (by show h (sw1 900 g 900) = _; rw [Aj8]; exact hg)).rn (π := sw1 900 g) (Uu 900 g) (d' := d);simp only [SV.rnL, SV.rn, HU.rn, Blk.rn, List.map_cons, List.map_nil, Aj8, Sk ha, Aeg hx, Aeg hc'] at h1;refine h1.at fun n hn => ?_;simp only [Bd, tn, Ob ha, List.append_nil, List.mem_singleton] at hn;subst hn;simp only [Uu, hg, Option.map_some, Blk.rn, Aeg hc]
theorem FunOk.quiet {P : Program} {f : Nat} {args : List SV} {h : Nat → Option Blk} {d g : Nat} {x : SV} {blk : Blk} (hf : FunOk P f args h d x [.upd g blk]) (hg : h g = some blk) (hin : g ∈ Bd args) : FunOk P f args h d x [] :=
 ⟨hf.1, fun F N ρ s a w hR hh vs hc => by
  have hs : s.h g = some blk := (hh g hin).trans hg;have e : s.hup [.upd g blk] = s := FS.ext' (fun _ => rfl) fun n => by
   simp only [FS.hup, FS.seth];split
   · rename_i e; rw [e]; exact hs.symm
   · rfl
  have := hf.2 F N ρ s a w hR hh vs hc;rw [e] at this;exact this⟩
theorem FunOk.ioRow {P : Program} {f : Nat} {a : List SV} {sz : Nat} {es : List (List PV)} {x : SV} (hf : ∀ h d, h 900 = some (.row sz es) → FunOk P f (.os 900 :: a) h d x [.upd 900 (.row sz es)]) (ha : SV.closedL a = true) (hx : x.closed = true) {g : Nat} {h : Nat → Option Blk} {d : Nat} (hg : h g = some (.row sz es)) :
 FunOk P f (.os g :: a) h d x [] := by
 have h1 := (hf (fun k => h (sw1 900 g k)) d (by show h (sw1 900 g 900) = _; rw [Aj8]; exact hg)).rn (π := sw1 900 g) (Uu 900 g) (d' := d);simp only [SV.rnL, SV.rn, HU.rn, Blk.rn, List.map_cons, List.map_nil, Aj8, Sk ha, Aeg hx] at h1;refine FunOk.quiet (g := g) (blk := .row sz es) (h1.at fun n hn => ?_) hg (by simp [Bd, tn]);simp only [Bd, tn, Ob ha, List.append_nil, List.mem_singleton] at hn;subst hn;simp only [Uu, hg, Option.map_some, Blk.rn]
theorem Aoa {P : Program} (hm : P.follows .mixedOrders = true) {f N' : Nat} {rs : List Rv} {c : C} (hf : Bf P f = some (N', rs, c)) {args : List SV} {h : Nat → Option Blk} {d : Nat} {x : PV} (hlen : args.length ≤ N')
 (hargs : SV.closedL args = true) (hx : (SV.pv x).closed = true) (hrun : ∀ F, sx (Z6 P F N') c (Yh rs fun y g => ∃ n, y = .p n 0 ∧ g.h n = some (.var (.agg [.pv x]))) (mk (C4 0 args) [])) :
 FunOk P f args h d (.p d 0) [.new d (.var (.pv x))] := by
 obtain ⟨h1, h2, h3⟩ := Bl hargs;refine ⟨Cj hf, fun F N ρ s a w hR hh vs hc => ?_⟩;refine Calls.mono (Dr hm hf (h := h) hlen h2 Wh (by rw [h3]; exact hrun) hR hh hc) fun e w' he => ?_;obtain ⟨v, rfl, hg, N'', ρ', s', a', y, hR', hy, n, rfl, hn⟩ := he;rw [h1, Dk] at hR' hy;simp only [Conc] at hy;obtain ⟨b0, hy1, hy2⟩ := hy;obtain ⟨b, vs', ty, fr, u, g1, g2, g3, g4, g5, g6, g7⟩ := hR'.own n _ hn;obtain ⟨u', k4, k5, k6⟩ : ∃ u', Conc (vw ⟨w, fun _ => False, F.out ρ s.h, fun _ => undef, []⟩ w' ρ' s') ρ' (.pv x) u' ∧ vs' = Ay u' ∧ vs'.length = (SV.pv x).width := by
  simp only [Conc, Cells] at g4;obtain ⟨vs2, rfl, u2, us, rfl, k1, k2, k3, rfl⟩ := g4;have e : vs' = Ay u2 := by
   rw [g5, List.append_nil];rfl
  exact ⟨u2, k1, e, by rw [e]; exact k2⟩
 have hown : ∀ b, Cs (ρ' n) = some b → w.heap.size ≤ b ∧ b < w'.heap.size := fun b hb => by
  have ho : Ck ρ' s'.h b := ⟨n, _, hn, hb⟩
  exact ⟨(hR'.may b ho).resolve_right id, hR'.lt ho⟩
 have hle : (vw ⟨w, fun _ => False, F.out ρ s.h, fun _ => undef, []⟩ w' ρ' s').le (Az w' (F.out (upd ρ d (ρ' n)) ((s.kill d).seth d (some (.var (.pv x)))).h)) := Bi fun b' c' hno hc' => ⟨fun hb' => hno (by
  rcases hb' with ⟨m, z, hm1, hm2⟩ | hb'
  · simp only [FS.seth, FS.kill] at hm1;by_cases hmd : m = d
    · subst hmd;rw [A4] at hm2;exact .inl ⟨n, _, hn, hm2⟩
    · rw [B0 hmd] at hm2;simp only [hmd, if_false] at hm1;obtain ⟨z', hz', _⟩ := Option.map_eq_some_iff.1 hm1;exact .inr (.inl ⟨m, z', hz', hm2⟩)
  · exact .inr (.inr hb')), hc'⟩
 have hnew := hR.adopt hg d (.var (.pv x)) (ρ' n) hown fun hV => ⟨b, vs', ty, fr, u', by rw [A4]; exact g1, g2, g3, Bz hle hx k4, k5, k6, g7⟩
 refine ⟨v, _, rfl, hnew.1, ?_⟩;simp only [Conc];exact ⟨b0, by rw [A4]; exact hy1, hy2⟩
theorem Wq : ∀ L : List (List UInt8), L.length ≤ (Cz L).length
 | [] => by simp
 | b :: l => by
   have := Wq l;have e := Mp b;simp only [Cz, List.length_append, List.length_cons];split at e <;> omega
theorem Sr {L : List (List UInt8)} (hb : Be L ≤ 300000) (hall : ∀ b ∈ L, b.length ≤ 65535) {h d} :
 FunOk Tryz.prog 26 [.pv (.sl false 1 (Am (Cz L)))] h d (.p d 0) [.new d (Lx false L)] := by
 unfold Lx;refine Aoa Aq fn26 (by simp) rfl rfl fun F => ?_;have hl := Hh L;have hg := Wq L;have hu : C9 (Cz L) [] ((Cz L).length : Int) = (L, 0) := Ll L _ hall (by omega)
 (try simp only [Ak, Aj, Ai, Ah, Ag, Af, Ae, Ad]); simp (maxSteps := 10000000) (disch := omega) only [ir26, A0, go_sem]
 refine Aa (Aeq (f := false) (z := 1) (b := Cz L) (most := ((Cz L).length : Int)) (.inr rfl) (by omega)) ?_;rw [hu]
 (try simp only [Ak, Aj, Ai, Ah, Ag, Af, Ae, Ad]); simp (maxSteps := 10000000) (disch := omega) only [go_sem]
 refine Aa Ah3 ?_
 (try simp only [Ak, Aj, Ai, Ah, Ag, Af, Ae, Ad]); simp (maxSteps := 10000000) (disch := omega) only [go_sem]
 refine ⟨_, Eu 9 rfl (.same _), ?_⟩
 (try simp only [Ak, Aj, Ai, Ah, Ag, Af, Ae, Ad]); simp (maxSteps := 10000000) (disch := omega) only [go_sem]
 exact ⟨16, rfl, rfl⟩
theorem Amu {x : Ca} (hx : Ez x) {h d} :
 FunOk Tryz.prog 63 [.pv (.sl false 1 (Am (E6 x))), .pv (.i .i64 1)] h d (.tup [.pv (.sl false 2 [Ga x]), .pv (.i .i64 0)]) [] := by
 have hok : ∀ y ∈ [x], Ez y := by simpa using hx
 unfold E6;obtain ⟨l, hl⟩ : ∃ l, l = [x] := ⟨_, rfl⟩
 have hn : l.length = 1 := by rw [hl]; rfl
 have hle : [Ga x] = l.map Ga := by rw [hl]; rfl
 rw [← hl] at hok ⊢;rw [hle];clear hl;refine Tb Aq fn63 (by simp) rfl rfl fun F => ?_;have hw := Afj hok;have hu : C9 (Xi l) [] 1 = (l.map Yw, 0) := Ll (l.map Yw) 1 (fun b hb => by
  obtain ⟨y, hy, rfl⟩ := List.mem_map.1 hb;have := Ox y (hok y hy); omega) (by simp; omega)
 (try simp only [Ak, Aj, Ai, Ah, Ag, Af, Ae, Ad]); simp (maxSteps := 10000000) (disch := omega) only [ir63, go_sem]
 refine Aa (Aeq (f := false) (z := 1) (b := Xi l) (most := 1) (.inr rfl) (by omega)) ?_;rw [hu]
 (try simp only [Ak, Aj, Ai, Ah, Ag, Af, Ae, Ad]); simp (maxSteps := 10000000) (disch := omega) only [go_sem]
 refine A1 Aq (Aa0 l) (fun k => k ≤ l.length) (fun k => l.length - k) 0 (by simp) (Na 8 40 2 rfl (by omega) (An ?_ ?_)) fun k hk => ?_
 · (try simp only [Ak, Aj, Ai, Ah, Ag, Af, Ae, Ad]); simp (maxSteps := 10000000) (disch := omega) only [go_sem]
 · (try simp only [Ak, Aj, Ai, Ah, Ag, Af, Ae, Ad]); simp (maxSteps := 10000000) (disch := omega) only [go_sem]
   rfl
 by_cases hlt : k < l.length
 · have he : ((l.map Yw).map bE)[k]? = some (bE (Yw l[k])) := by simp [hlt]
   have ht : l.take (k + 1) = l.take k ++ [l[k]] := by rw [List.take_add_one, List.getElem?_eq_getElem hlt]; rfl
   have hm := hok l[k] (List.getElem_mem hlt);generalize l[k] = y at *;have hil := Ox y hm;have hib := Aci hm;have hkl : (l.take k).length ≤ 8 := by simp; omega
   (try simp only [Ak, Aj, Ai, Ah, Ag, Af, Ae, Ad]); simp (maxSteps := 10000000) (disch := omega) only [Aa0, he, bE, Afb, go_sem]
   refine Aa (Arw (f := false) (z := 1) (b := Yw y) (.inr rfl) (by omega)) ?_
   (try simp only [Ak, Aj, Ai, Ah, Ag, Af, Ae, Ad]); simp (maxSteps := 10000000) (disch := omega) only [hib, go_sem]
   refine ⟨k + 1, by omega, by omega, Cf 30 40 (by decide) rfl (An ?_ ?_)⟩
   · (try simp only [Ak, Aj, Ai, Ah, Ag, Af, Ae, Ad]); simp (maxSteps := 10000000) (disch := omega) only [go_sem]
   · (try simp only [Ak, Aj, Ai, Ah, Ag, Af, Ae, Ad]); simp (maxSteps := 10000000) (disch := omega) only [ht, List.map_append, List.map_cons, List.map_nil, Ga, bE, go_sem]
 · obtain rfl : k = l.length := by omega
   have e := List.take_length (l := l);have hself : decide (Xi l = Xi l) = true := by simp
   (try simp only [Ak, Aj, Ai, Ah, Ag, Af, Ae, Ad]); simp (maxSteps := 10000000) (disch := omega) only [Aa0, e, go_sem]
   refine Aa (Ws (f := false) (z := 2) (l := l) rfl rfl (.inr rfl) (by omega) hok) ?_
   (try simp only [Ak, Aj, Ai, Ah, Ag, Af, Ae, Ad]); simp (maxSteps := 10000000) (disch := omega) only [go_sem]
   refine Aa (A8p (f := false) (g := false) (y := 1) (z := 1) (a := Xi l) (b := Xi l) rfl rfl (.inr rfl) (.inr rfl) (by omega) (by omega)) ?_
   (try simp only [Ak, Aj, Ai, Ah, Ag, Af, Ae, Ad]); simp (maxSteps := 10000000) (disch := omega) only [hself, go_sem]
   refine ⟨_, Eu 40 rfl (.same _), ?_⟩
   (try simp only [Ak, Aj, Ai, Ah, Ag, Af, Ae, Ad]); simp (maxSteps := 10000000) (disch := omega) only [go_sem]
theorem A32 {f : Bool} {v : Vc} (hv : Mv v) {L : List (List UInt8)} {h d} (hn : L.length ≤ 100000) (hg : h 900 = some (Lx f (Io v :: L))) : FunOk Tryz.prog 27 [.p 900 0] h d (.vec 8 (vE v)) [.upd 900 (Lx f L)] := by
 have hT := fun (h' : Nat → Option Blk) (d' : Nat) (hg' : h' 900 = some (Lx f (Io v :: L))) => Abq (d := d') hn hg';unfold Lx at *;refine Ro (g := 900) Aq fn27 (by simp) (by simp [Bd, tn]) (by simp [Bd, tn]) hg rfl (by simp [Blk.ptr, SV.kill]) rfl (fun _ => rfl) fun F => ?_;have gk := Mj v (fun _ => 0) hv (by simp);have gke : vE (J2 (C2 v fun _ => 0) fun _ => 0).1 = vE v := Kb gk.2;have gl := E1 hv;unfold Io at *
 (try simp only [Ak, Aj, Ai, Ah, Ag, Af, Ae, Ad]); simp (maxSteps := 10000000) (disch := omega) only [ir27, Blk.ptr, go_sem]
 refine Aa (hT _ _ rfl) ?_
 (try simp only [Ak, Aj, Ai, Ah, Ag, Af, Ae, Ad]); simp (maxSteps := 10000000) (disch := omega) only [go_sem]
 refine Aa (A39 (a := .pv (.sl false 1 (Am (C2 v fun _ => 0)))) (l := C2 v fun _ => 0) (fun _ => 0) (by simp) (by omega) rfl rfl (.inr rfl)) ?_;rw [gke, gk.1]
 (try simp only [Ak, Aj, Ai, Ah, Ag, Af, Ae, Ad]); simp (maxSteps := 10000000) (disch := omega) only [go_sem]
 refine Aa Ah3 ?_
 (try simp only [Ak, Aj, Ai, Ah, Ag, Af, Ae, Ad]); simp (maxSteps := 10000000) (disch := omega) only [go_sem]
 refine ⟨_, .same _, ?_⟩
 (try simp only [Ak, Aj, Ai, Ah, Ag, Af, Ae, Ad]); simp (maxSteps := 10000000) (disch := omega) only [go_sem]
 exact ⟨900, rfl, rfl⟩
theorem A8o {f : Bool} {x : Ca} (hx : Ez x) {L : List (List UInt8)} {h d} (hn : L.length ≤ 100000) (hg : h 900 = some (Lx f (E6 x :: L))) : FunOk Tryz.prog 30 [.p 900 0] h d (.vec 2 [.i .i64 x.1, .i .u32 x.2]) [.upd 900 (Lx f L)] := by
 have hT := fun (h' : Nat → Option Blk) (d' : Nat) (hg' : h' 900 = some (Lx f (E6 x :: L))) => Abq (d := d') hn hg';unfold Lx at *;refine Ro (g := 900) Aq fn30 (by simp) (by simp [Bd, tn]) (by simp [Bd, tn]) hg rfl (by simp [Blk.ptr, SV.kill]) rfl (fun _ => rfl) fun F => ?_
 (try simp only [Ak, Aj, Ai, Ah, Ag, Af, Ae, Ad]); simp (maxSteps := 10000000) (disch := omega) only [ir30, Blk.ptr, go_sem]
 refine Aa (hT _ _ rfl) ?_
 (try simp only [Ak, Aj, Ai, Ah, Ag, Af, Ae, Ad]); simp (maxSteps := 10000000) (disch := omega) only [go_sem]
 refine Aa (Amu hx) ?_
 (try simp only [Ak, Aj, Ai, Ah, Ag, Af, Ae, Ad]); simp (maxSteps := 10000000) (disch := omega) only [go_sem]
 refine Aa Ah3 ?_
 (try simp only [Ak, Aj, Ai, Ah, Ag, Af, Ae, Ad]); simp (maxSteps := 10000000) (disch := omega) only [List.getElem?_cons_zero, Ic, go_sem]
 refine ⟨_, .same _, ?_⟩
 (try simp only [Ak, Aj, Ai, Ah, Ag, Af, Ae, Ad]); simp (maxSteps := 10000000) (disch := omega) only [go_sem]
 exact ⟨900, rfl, rfl⟩
theorem Jy {f : Bool} {b : List UInt8} {L : List (List UInt8)} {g : Nat} {h d} (hn : L.length ≤ 100000) (hg : h g = some (Lx f (b :: L))) : FunOk Tryz.prog 28 [.p g 0] h d (.pv (.sl false 1 (Am b))) [.upd g (Lx f L)] :=
 FunOk.io (a := []) (fun h d hg => Abq hn hg) rfl rfl rfl rfl hg
theorem Abp {f : Bool} {v : Vc} (hv : Mv v) {L : List (List UInt8)} {g : Nat} {h d} (hn : L.length ≤ 100000) (hg : h g = some (Lx f (Io v :: L))) : FunOk Tryz.prog 27 [.p g 0] h d (.vec 8 (vE v)) [.upd g (Lx f L)] :=
 FunOk.io (a := []) (fun h d hg => A32 hv hn hg) rfl rfl rfl rfl hg
theorem Zs {f : Bool} {x : Ca} (hx : Ez x) {L : List (List UInt8)} {g : Nat} {h d} (hn : L.length ≤ 100000) (hg : h g = some (Lx f (E6 x :: L))) : FunOk Tryz.prog 30 [.p g 0] h d (.vec 2 [.i .i64 x.1, .i .u32 x.2]) [.upd g (Lx f L)] :=
 FunOk.io (a := []) (fun h d hg => A8o hx hn hg) rfl rfl rfl rfl hg
end Go.Proofs.YtannaphhhkncoaaGreat.Fw
namespace Go.Proofs.YtannaphhhkncoaaGreat.Fw
open Go.RowKit Go.Proofs
variable {P : Program} {F : Fr} {N : Nat} {ρ ρ' : Nat → Value} {s : FS} {ac : Act} {w w' : World} {V V' : View}
theorem Vv : ∀ a b : List SV, SV.widthL (a ++ b) = SV.widthL a + SV.widthL b
 | [], b => by simp [SV.widthL]
 | x :: a, b => by simp only [List.cons_append, SV.widthL, Vv a b]; omega
theorem RelR.nilagg (h : RelR F N ρ s ac w) {m n z sz : Nat} {a b : List SV} (hm : s.h m = some (.var (.agg (a ++ .pv (.sl true z []) :: b)))) (hmn : m ≠ n) (ha : SV.closedL a = true) (hb : SV.closedL b = true) (hs : 0 < sz) :
 ∃ ρ', RelR F N ρ' (((s.kill n).seth n (some (.row sz []))).seth m (some (.var (.agg (a ++ .os n :: b))))) ac w := by
 obtain ⟨bb, vs, ty, fr, u0, g1, g2, g3, g4, g5, g6, g7⟩ := h.own m _ hm;simp only [Conc] at g4;obtain ⟨us, rfl, hc⟩ := g4;obtain ⟨va, vb, rfl, h1, h2⟩ := Uf hc;simp only [Cells] at h2;obtain ⟨u, ub, rfl, h3, h4, h5, h6⟩ := h2;simp only [Conc] at h3;obtain ⟨base, rfl⟩ : ∃ base, u = .slice base 0 0 := by
  cases h3 with
  | sl full sz es a cap cs bl off arr hcap hfull hsz ha hcs hel =>
    have := hfull rfl;simp only [List.length_nil] at this;subst this;exact ⟨a, rfl⟩
 obtain ⟨hR, hV⟩ := h.adopt (Grew.refl w) n (.row sz []) (.slice base 0 0) (fun b hb => by cases base <;> simp [Cs] at hb) fun hV => ⟨base, 0, by rw [A4]; rfl, Nat.le_refl _, hs, by simp, fun h => absurd rfl h⟩
 have hcl : SV.closedL (a ++ .pv (.sl true z []) :: b) = true := by
  have key : ∀ l : List SV, SV.closedL l = true → SV.closedL (l ++ .pv (.sl true z []) :: b) = true := fun l => by
   induction l with
   | nil => intro _; simp [SV.closedL, SV.closed, hb]
   | cons x l ih => intro hl; simp only [SV.closedL, Bool.and_eq_true, List.cons_append] at hl ⊢; exact ⟨hl.1, ih hl.2⟩
  exact key a ha
 have hm2 : ((s.kill n).seth n (some (.row sz []))).h m = some (.var (.agg (a ++ .pv (.sl true z []) :: b))) := by
  simp only [FS.seth, FS.kill];rw [if_neg hmn, hm];simp only [Option.map_some, Blk.kill, SV.kill, Fp n hcl]
 refine ⟨_, hR.redesc hm2 ⟨bb, _, ty, fr, _, by rw [B0 hmn]; exact g1, g2, g3, ?_, g5, ?_, g7⟩⟩
 · simp only [Conc];refine ⟨_, rfl, Xv (Iu hV ha h1) ?_⟩;simp only [Cells];exact ⟨.slice base 0 0, ub, rfl, by simp only [Conc]; exact ⟨by rw [A4], trivial⟩, h4, h5, Iu hV hb h6⟩
 · rw [g6];simp only [SV.width, Vv, SV.widthL]
theorem Sy {r : Option Nat} {X : Frs} {c : C} {Q : Ch} {T : List (Nat × SV)} {H : List (Nat × Option Blk)} (m n sz : Nat) {z : Nat} {a b : List SV} (hm : lk none m H = some (.var (.agg (a ++ .pv (.sl true z []) :: b)))) (hmn : m ≠ n) (ha : SV.closedL a = true) (hb : SV.closedL b = true) (hs : 0 < sz)
 (h : (Ff P r X N).loop c Q (mk (K4 n T) ((m, some (.var (.agg (a ++ .os n :: b)))) :: (n, some (.row sz [])) :: H0 n H))) : (Ff P r X N).loop c Q (mk T H) := fun code hc ac w hR => h code hc ac w (RelX.wk0 (fun ⟨ρ, hR⟩ => by
 have := RelR.nilagg (s := mk T H) hR hm hmn ha hb hs;rw [Rf, Od, Od] at this;exact this) hR)
end Go.Proofs.YtannaphhhkncoaaGreat.Fw
namespace Go.Proofs.YtannaphhhkncoaaGreat.Fw
open Go.RowKit Go.Proofs
theorem Vf {l : List Obj} {j : Nat} {o : Obj} (h : l[j]? = some o) : (l.map obN)[j]? = some (obN o) := by rw [List.getElem?_map, h]; rfl
theorem Ami {l : List Obj} (hs : H7 l) {j m : Nat} {x v : Obj} (hj : l[j]? = some x) (hm : l[m]? = some v) (h : j < m) : M8 x.id v.id = true := Aqk (l := l.map obN) hs (Vf hj) (Vf hm) h
theorem Q1 (l : List Obj) (i : Ca) : D7 l i ≤ l.length := by have := Akl (l.map obN) i; simpa [D7] using this
theorem Bbt {l : List Obj} (hs : H7 l) (i : Ca) : isO l i = match l[D7 l i]? with | some x => decide (x.id = i) | none => false := by
 have h := Asv (l := l.map obN) hs i;unfold isO isE;rw [h];show _ = match l[D7 l i]? with | some x => decide (x.id = i) | none => false
 unfold D7;cases hx : l[Ly (l.map obN) i]? with
 | none => rw [List.getElem?_map, hx]; rfl
 | some x =>
   rw [List.getElem?_map, hx];show (if x.id = i then some (obN x) else none).isSome = decide (x.id = i);by_cases e : x.id = i <;> simp [e]
def Aum (l : List Obj) (i : Ca) : Int := if i = (0, 0) then 0 else match l[D7 l i]? with
 | some o => if o.id = i then (if o.dir = true then 0 else 22) else 2
 | none => 2
theorem Apn {i : Ca} (h : i = (0, 0)) : i.1 = 0 ∧ i.2 = 0 := by subst h; exact ⟨rfl, rfl⟩
def Cd : SV := .agg [.vec 8 (List.replicate 8 (.i .u32 0)), .pv (.sl true 0 []), .pv (.sl true 0 []), .vec 8 (List.replicate 8 (.i .i64 0)), .vec 8 (List.replicate 8 (.b false))]
theorem Dt {α : Type} {l : List α} {k : Nat} {y : α} (h : l[k]? = some y) : l.take (k + 1) = l.take k ++ [y] := by
 rw [List.take_add_one, h]; rfl
structure Fine (s : St) : Prop where
 on : s.objs.length ≤ 500
 ov : ∀ o ∈ s.objs, o.vers.length ≤ 500
 en : s.ents.length ≤ 500
def Alz : List SV → List PV → Prop
 | [], cs => cs = []
 | .pv x :: l, cs => ∃ r, cs = x :: r ∧ Alz l r
 | .vec n c :: l, cs => c.length = n ∧ ∃ r, cs = c ++ r ∧ Alz l r
 | _ :: _, _ => False
theorem Th {V : View} {ρ : Nat → Value} : ∀ {l : List SV} {cs : List PV} {vs : List Value}, Alz l cs → PCells V cs vs → Cells V ρ l vs
 | [], cs, vs, h, hp => by
   have h : cs = [] := h;subst h;simp only [Cells];exact List.eq_nil_of_length_eq_zero hp.1.symm
 | .pv x :: l, cs, vs, h, hp => by
   obtain ⟨r, rfl, h⟩ := h;simp only [Cells];obtain ⟨v, hv, hx⟩ := hp.2 0 x rfl;cases vs with
   | nil => cases hv
   | cons u us =>
     have : u = v := by simpa using hv
     subst this;have hf : Ay u = [u] := by have := hx.one; cases u <;> simp_all [Ay, A8]
     refine ⟨u, us, by rw [hf]; rfl, by simp only [Conc]; exact hx, by rw [hf]; rfl, fun c hc => ?_, Th h ⟨by simpa using hp.1, fun j y hy => by simpa using hp.2 (j + 1) y (by simpa using hy)⟩⟩;rw [hf] at hc;rw [List.mem_singleton.1 hc];exact hx.one
 | .vec n c :: l, cs, vs, h, hp => by
   obtain ⟨hn, r, rfl, h⟩ := h;simp only [Cells];have hl : c.length + r.length = vs.length := by simpa using hp.1
   have hA : PCells V c (vs.take n) := ⟨by simp; omega, fun j y hy => by
    have hj := (List.getElem?_eq_some_iff.1 hy).1;obtain ⟨v, h1, h2⟩ := hp.2 j y (by rw [List.getElem?_append_left hj]; exact hy);exact ⟨v, by rw [List.getElem?_take_of_lt (by omega)]; exact h1, h2⟩⟩
   refine ⟨.agg ⟨vs.take n⟩, vs.drop n, (List.take_append_drop n vs).symm, by simp only [Conc]; exact ⟨_, rfl, by simp; omega, hA⟩, by simp [Ay, SV.width]; omega, fun x hx => hA.one x hx, Th h ⟨by simp; omega, fun j y hy => by
    obtain ⟨v, h1, h2⟩ := hp.2 (n + j) y (by rw [List.getElem?_append_right (by omega)]; simpa [hn] using hy);exact ⟨v, by rw [List.getElem?_drop]; exact h1, h2⟩⟩⟩
 | .agg _ :: _, _, _, h, _ => h.elim
 | .tup _ :: _, _, _, h, _ => h.elim
 | .p _ _ :: _, _, _, h, _ => h.elim
 | .ps _ _ :: _, _, _, h, _ => h.elim
 | .pr _ _ _ _ :: _, _, _, h, _ => h.elim
 | .pi _ _ _ _ :: _, _, _, h, _ => h.elim
 | .os _ :: _, _, _, h, _ => h.elim
 | .ov _ _ _ _ :: _, _, _, h, _ => h.elim
 | .fn _ _ :: _, _, _, h, _ => h.elim
 | .dead :: _, _, _, h, _ => h.elim
theorem Alf {l : List SV} {cs : List PV} {n : Nat} (h : Alz l cs) : Imp (.vec n cs) (.agg l) := by
 intro V ρ v hv;simp only [Conc] at hv ⊢;obtain ⟨vs, rfl, _, hp⟩ := hv;exact ⟨vs, rfl, Th h hp⟩
theorem Axa (g : SlI) (h : g.ok) : Imp (.pv g.pv) (.pv (.sl g.f 2 (g.l.map Ga))) := Ach (Lz id (h.imp (fun e => by rw [e]; rfl) id) (.refl _))
structure FitsW (l : List Ver) (e : Evt) : Prop where
 k : e.kind = 3 ∨ e.kind = 4 ∨ e.kind = 5
 off : e.kind ≠ 5 → 0 ≤ e.off ∧ e.off ≤ 200
 len : e.kind = 3 → e.off + e.data.length ≤ 200
 data : ∀ v ∈ l, v.data.length ≤ 200
abbrev A2 (e : Evt) : Ca := (e.rep, e.seq)
abbrev Cv (e : Evt) : Ca := (e.orep, e.oseq)
abbrev Alm (e : Evt) : Ca := (e.drep, e.dseq)
structure StOk (s : St) : Prop where
 fine : Fine s
 so : H7 s.objs
 se : J8 s.ents
structure VerOk (o : Obj) (e : Evt) : Prop where
 sv : Fs o.vers
 fw : FitsW o.vers e
 new : Bx o.vers e.rep e.seq = none
 bl : e.base.l.length ≤ 900
theorem Ld {rs : List Rv} {R : SV → FS → Prop} {s : FS} (h : Kf s rs fun l => R (one l) s) : Wi rs R s := ⟨s, .same s, h⟩
def Qs (s : St) (e : Evt) : St := { s with wards := Er s.wards (e.rep - 1).toNat e.ward }
def Aeh (s : St) (e : Evt) : St := { s with ret := Er s.ret (e.rep - 1).toNat true }
theorem Wa (s : St) {k : Nat} (hk : k < 8) (n : Int) (a b : PV) : splice (vE s.known ++ a :: b :: (iE s.wards ++ wE s.ret)) (10 + k) [.i .i64 n] = vE s.known ++ a :: b :: (iE (Er s.wards k n) ++ wE s.ret) := by
 rw [← Zh hk];simp only [splice, vE, iE, wE, Cq];have hk2 : k = 0 ∨ k = 1 ∨ k = 2 ∨ k = 3 ∨ k = 4 ∨ k = 5 ∨ k = 6 ∨ k = 7 := by omega
 rcases hk2 with rfl | rfl | rfl | rfl | rfl | rfl | rfl | rfl <;> rfl
theorem Akb (s : St) {k : Nat} (hk : k < 8) (n : Bool) (a b : PV) : splice (vE s.known ++ a :: b :: (iE s.wards ++ wE s.ret)) (18 + k) [.b n] = vE s.known ++ a :: b :: (iE s.wards ++ wE (Er s.ret k n)) := by
 rw [← Sg hk];simp only [splice, vE, iE, wE, Cq];have hk2 : k = 0 ∨ k = 1 ∨ k = 2 ∨ k = 3 ∨ k = 4 ∨ k = 5 ∨ k = 6 ∨ k = 7 := by omega
 rcases hk2 with rfl | rfl | rfl | rfl | rfl | rfl | rfl | rfl <;> rfl
theorem Aay (s : St) : Imp (.vec 26 (vE s.known ++ .sl false 15 (s.objs.map A6) :: .sl false 15 (s.ents.map Bk) :: (iE s.wards ++ wE s.ret))) (.agg (Bb s)) :=
 Alf ⟨Bh _, _, rfl, _, rfl, _, rfl, K6 _, _, rfl, Kk _, [], by simp, rfl⟩
end Go.Proofs.YtannaphhhkncoaaGreat.Fw
namespace Go.Proofs.YtannaphhhkncoaaGreat.Fw
open Go.RowKit Go.Proofs
def I7 (l : List Obj) (i : Ca) : Option Obj := match l[D7 l i]? with
 | some o => if o.id = i then some o else none
 | none => none
theorem L5 {l : List Obj} {i : Ca} {o : Obj} (h : I7 l i = some o) : l[D7 l i]? = some o ∧ o.id = i := by
 unfold I7 at h;split at h
 · rename_i u hu;split at h
   · rename_i hi; cases h; exact ⟨hu, hi⟩
   · cases h
 · cases h
theorem Ai6 {l : List Obj} (i : Ca) : Aum l i = if i = (0, 0) then 0 else match I7 l i with | some o => if o.dir = true then 0 else 22 | none => 2 := by
 unfold Aum I7;split
 · rfl
 · cases l[D7 l i]? with
   | none => rfl
   | some x => simp only; by_cases h : x.id = i <;> simp [h]
open Classical in
noncomputable def Aps (s : St) (e : Evt) : Int :=
 if e.kind = 8 ∨ e.kind = 9 then 0
 else if e.kind = 1 ∨ e.kind = 2 then Aum s.objs (Alm e)
 else match I7 s.objs (Cv e) with
  | none => 2
  | some o => if e.kind = 7 then Aum s.objs (Alm e) else if e.kind = 6 then 0 else if o.dir = true then 23 else if Iq o.vers e.base.l then 2 else 0
noncomputable def Pe (s : St) (e : Evt) : Int :=
 if Cc e = false then 7
 else if Cm s.known e.rep e.seq = true then 11
 else if ¬ vLe e.dep s.known then 10
 else if s.ret (e.rep - 1).toNat = true then 28
 else Aps s e
structure StIn (s : St) : Prop extends StOk s where
 sv : ∀ o ∈ s.objs, Fs o.vers
 sd : ∀ o ∈ s.objs, ∀ v ∈ o.vers, v.data.length ≤ 200
 sk : ∀ o ∈ s.objs, ∀ v ∈ o.vers, Cm s.known v.rep v.seq = true
theorem Hl {e : Evt} (h : Cc e = true) : Ik e := by
 unfold Cc at h;simp only [Bool.and_eq_true, decide_eq_true_eq] at h;exact h.1
theorem Y1 {e : Evt} (h : Cc e = true) (hk : e.kind = 3 ∨ e.kind = 4 ∨ e.kind = 5) : e.base.l.length ≤ 8 := by
 unfold Cc at h;simp only [Bool.and_eq_true, decide_eq_true_eq] at h;have hK := h.2.2.2;rcases hk with h3 | h3 | h3
 · rw [Re h3] at hK;simp only [Bool.and_eq_true, Gv, decide_eq_true_eq] at hK;have := hK.2.1.1; omega
 · rw [U8 h3] at hK;simp only [Bool.and_eq_true, Gv, decide_eq_true_eq] at hK;have := hK.2.1.1; omega
 · rw [Rd h3] at hK;simp only [Bool.and_eq_true, Gv, decide_eq_true_eq] at hK;have := hK.2.1.1; omega
structure DoIn (s : St) (e : Evt) : Prop where
 ok : StOk s
 ev : ev e
 ck : Cc e = true
 vo : e.kind = 3 ∨ e.kind = 4 ∨ e.kind = 5 → ∀ o ∈ s.objs, VerOk o e
theorem Ayv (a b : PV) (w : Nat → Int) (r : Nat → Bool) {j : Nat} (hj : j < 8) (K : KK) : LoadK (some (a :: b :: (iE w ++ wE r))) (18 + j - 8) 1 false K = K (.pv (.b (r j))) [] := by
 have e : 18 + j - 8 = 10 + j := by omega
 rw [e];simp only [LoadK, G5, eq_iff_iff];have e2 : (a :: b :: (iE w ++ wE r)).getD (10 + j) (.b false) = .b (r j) := by
  have hk2 : j = 0 ∨ j = 1 ∨ j = 2 ∨ j = 3 ∨ j = 4 ∨ j = 5 ∨ j = 6 ∨ j = 7 := by omega
  simp only [iE, wE, Cq];rcases hk2 with rfl | rfl | rfl | rfl | rfl | rfl | rfl | rfl <;> rfl
 rw [e2];exact ⟨fun h => h.2.2, fun h => ⟨by simp [K6, Kk]; omega, .inr trivial, h⟩⟩
theorem Aj5 {x y z : SV} (h : Imp x y) : Imp (.tup [x, z]) (.tup [y, z]) := Ay5 ⟨h, Imp.refl _, trivial⟩
end Go.Proofs.YtannaphhhkncoaaGreat.Fw
namespace Go.Proofs.YtannaphhhkncoaaGreat.Fw
open Go.RowKit Go.Proofs
theorem Arr (r : Int) (q : Nat) {h d} : FunOk Tryz.prog 94 [.vec 2 [.i .i64 r, .i .u32 q]] h d (.pv (.b (Ce r q))) [] := by
 refine A7 Aq fn94 (by simp) rfl rfl fun F => ?_;by_cases h1 : r = 0
 · by_cases h2 : q = 0
   · have e : Ce r q = true := decide_eq_true ⟨h1, h2⟩;have h2' : (q : Int) = 0 := by omega
     (try simp only [Ak, Aj, Ai, Ah, Ag, Af, Ae, Ad]); simp (maxSteps := 10000000) (disch := omega) only [ir94, P4, P3, h1, h2', e, go_sem]
     simp [Ce, h2]
   · have e : Ce r q = false := decide_eq_false fun h => h2 h.2;have h2' : ¬ (q : Int) = 0 := by omega
     (try simp only [Ak, Aj, Ai, Ah, Ag, Af, Ae, Ad]); simp (maxSteps := 10000000) (disch := omega) only [ir94, P4, P3, h1, h2', e, go_sem]
     simp [Ce, h2]
 · have e : Ce r q = false := decide_eq_false fun h => h1 h.1
   (try simp only [Ak, Aj, Ai, Ah, Ag, Af, Ae, Ad]); simp (maxSteps := 10000000) (disch := omega) only [ir94, P4, P3, h1, e, go_sem]
def Aa6 (f : Bool) (l : List Ca) (i : Ca) (k : Nat) : FS := mk [(5, .pv (.i .i64 k)), (0, .pv (.sl f 2 (l.map Ga))), (3, .p 3 0)] [(3, some (.var (.vec 2 [.i .i64 i.1, .i .u32 i.2])))]
set_option maxHeartbeats 1000000 in
theorem Py (g : SlI) (i : Ca) (hg : g.ok) {h d} (hn : g.l.length ≤ 1000) : FunOk Tryz.prog 46 [.pv g.pv, .vec 2 [.i .i64 i.1, .i .u32 i.2]] h d (.pv (.b (decide (i ∈ g.l)))) [] := by
 refine FunOk.imp (args' := [.pv (.sl g.f 2 (g.l.map Ga)), .vec 2 [.i .i64 i.1, .i .u32 i.2]]) ?_ ⟨Axa g hg, Imp.refl _, trivial⟩ (by simp [Bd, tn]);refine A7 Aq fn46 (by simp) rfl rfl fun F => ?_;generalize g.f = f;generalize g.l = l at *
 (try simp only [Ak, Aj, Ai, Ah, Ag, Af, Ae, Ad]); simp (maxSteps := 10000000) (disch := omega) only [ir46, List.length_map, go_sem]
 refine A1 Aq (Aa6 f l i) (fun k => k ≤ l.length ∧ ∀ j x, j < k → l[j]? = some x → i ≠ x) (fun k => l.length - k) 0 ⟨by simp, fun j x hj => absurd hj (Nat.not_lt_zero j)⟩ (An ?_ ?_) fun k hk => ?_
 · (try simp only [Ak, Aj, Ai, Ah, Ag, Af, Ae, Ad]); simp (maxSteps := 10000000) (disch := omega) only [go_sem]
 · (try simp only [Ak, Aj, Ai, Ah, Ag, Af, Ae, Ad]); simp (maxSteps := 10000000) (disch := omega) only [go_sem]
 obtain ⟨hk1, hk2⟩ := hk;by_cases hlt : k < l.length
 · have hx : l[k]? = some l[k] := List.getElem?_eq_getElem hlt;have he : (l.map Ga)[k]? = some (Ga l[k]) := by rw [List.getElem?_map, hx]; rfl
   have hm := List.getElem_mem hlt;generalize l[k] = b at *;by_cases hb : b = i
   · have hp := Gs hb;have e : decide (i ∈ l) = true := decide_eq_true (hb ▸ hm)
     (try simp only [Ak, Aj, Ai, Ah, Ag, Af, Ae, Ad]); simp (maxSteps := 10000000) (disch := omega) only [Aa6, List.length_map, he, Ic, Bm, hp, e, go_sem]
   · have hp := Gt hb
     (try simp only [Ak, Aj, Ai, Ah, Ag, Af, Ae, Ad]); simp (maxSteps := 10000000) (disch := omega) only [Aa6, List.length_map, he, Ic, Bm, hp, go_sem]
     refine Al (k + 1) _ _ rfl ⟨by omega, fun j x hj hjx => ?_⟩ (by omega) ?_ ?_
     · by_cases ej : j = k
       · subst ej; rw [hx] at hjx; cases hjx; exact fun q => hb q.symm
       · exact hk2 j x (by omega) hjx
     · (try simp only [Ak, Aj, Ai, Ah, Ag, Af, Ae, Ad]); simp (maxSteps := 10000000) (disch := omega) only [go_sem]
     · (try simp only [Ak, Aj, Ai, Ah, Ag, Af, Ae, Ad]); simp (maxSteps := 10000000) (disch := omega) only [go_sem]
 · obtain rfl : k = l.length := by omega
   have e : decide (i ∈ l) = false := decide_eq_false fun hm => by
    obtain ⟨j, hj⟩ := List.mem_iff_getElem?.1 hm;exact hk2 j i (List.getElem?_eq_some_iff.1 hj).1 hj rfl
   (try simp only [Ak, Aj, Ai, Ah, Ag, Af, Ae, Ad]); simp (maxSteps := 10000000) (disch := omega) only [Aa6, List.length_map, e, go_sem]
theorem Ap4 (v : Vc) (r : Int) (q : Nat) : vE (Ei v (Q6 r q)) = vE (Br v r q) := Kb fun i hi => (Adf v r q i hi).symm
theorem Es (v : Vc) (r : Int) (q : Nat) {h d} : FunOk Tryz.prog 19 [.vec 8 (vE v), .vec 2 [.i .i64 r, .i .u32 q]] h d (.vec 8 (vE (Br v r q))) [] := by
 rw [← Ap4]; exact U2 v r q
def Dg (l : List Evt) : Vc := l.foldl (fun v e => Br v e.rep e.seq) (fun _ => 0)
theorem T8 (l : List Evt) (e : Evt) : Dg (l ++ [e]) = Br (Dg l) e.rep e.seq := by simp [Dg]
def Aa5 (f : Bool) (l : List Evt) (k : Nat) : FS := mk [(4, .pv (.i .i64 k)), (0, .pv (.sl f 21 (l.map Cn))), (3, .p 3 0), (2, .p 2 0)] [(3, some (.var (.vec 8 (vE (Dg (l.take k)))))), (2, some (.var (.vec 8 (vE fun _ => 0))))]
set_option maxHeartbeats 1000000 in
theorem Aku {x : SV} {f : Bool} {l : List Evt} {h d} (hx : Ct h [x] = [.pv (.sl f 21 (l.map Cn))]) (hl : Bc [x] = true) (hn : l.length ≤ 1000) : FunOk Tryz.prog 14 [x] h d (.vec 8 (vE (Dg l))) [] := by
 refine Cx Aq fn14 (by simp) hl (Aj4 _) fun F => ?_;rw [hx]
 (try simp only [Ak, Aj, Ai, Ah, Ag, Af, Ae, Ad]); simp (maxSteps := 10000000) (disch := omega) only [ir14, go_sem]
 refine A1 Aq (Aa5 f l) (fun k => k ≤ l.length) (fun k => l.length - k) 0 (by simp) (An ?_ ?_) fun k hk => ?_
 · (try simp only [Ak, Aj, Ai, Ah, Ag, Af, Ae, Ad]); simp (maxSteps := 10000000) (disch := omega) only [go_sem]
 · (try simp only [Ak, Aj, Ai, Ah, Ag, Af, Ae, Ad]); simp (maxSteps := 10000000) (disch := omega) only [Dg, List.take_zero, List.foldl_nil, go_sem]
 by_cases hlt : k < l.length
 · have hx : l[k]? = some l[k] := List.getElem?_eq_getElem hlt;have he : (l.map Cn)[k]? = some (Cn l[k]) := by rw [List.getElem?_map, hx]; rfl
   have ht := Dt hx;generalize l[k] = e at *;have hs : Dg (l.take (k + 1)) = Br (Dg (l.take k)) e.rep e.seq := by rw [ht, T8]
   (try simp only [Ak, Aj, Ai, Ah, Ag, Af, Ae, Ad]); simp (maxSteps := 10000000) (disch := omega) only [Aa5, List.length_map, he, Bq, go_sem]
   refine Aa (Es _ _ _) ?_
   (try simp only [Ak, Aj, Ai, Ah, Ag, Af, Ae, Ad]); simp (maxSteps := 10000000) (disch := omega) only [go_sem]
   refine Al (k + 1) _ _ rfl (by omega) (by omega) ?_ ?_
   · (try simp only [Ak, Aj, Ai, Ah, Ag, Af, Ae, Ad]); simp (maxSteps := 10000000) (disch := omega) only [go_sem]
   · (try simp only [Ak, Aj, Ai, Ah, Ag, Af, Ae, Ad]); simp (maxSteps := 10000000) (disch := omega) only [hs, go_sem]
 · obtain rfl : k = l.length := by omega
   have htk : l.take l.length = l := List.take_length
   (try simp only [Ak, Aj, Ai, Ah, Ag, Af, Ae, Ad]); simp (maxSteps := 10000000) (disch := omega) only [Aa5, List.length_map, htk, go_sem]
def H2 (l : List Evt) (i : Ca) : Option Evt := l.find? fun e => decide (A2 e = i)
def Aa9 (f : Bool) (l : List Evt) (i : Ca) (z : SV) (k : Nat) : FS := mk [(6, .pv (.i .i64 k)), (0, .pv (.sl f 21 (l.map Cn))), (3, .p 3 0), (4, .p 4 0)] [(3, some (.var (.vec 2 [.i .i64 i.1, .i .u32 i.2]))), (4, some (.var z))]
theorem Azt {l : List Evt} {i : Ca} {k : Nat} {e : Evt} (h : ∀ j x, j < k → l[j]? = some x → A2 x ≠ i) (hx : l[k]? = some e) (he : A2 e = i) : H2 l i = some e := by
 obtain ⟨hlt, hg⟩ := List.getElem?_eq_some_iff.1 hx;unfold H2;rw [List.find?_eq_some_iff_getElem];refine ⟨by simpa using he, k, hlt, hg, fun j hj => ?_⟩;simpa using h j _ hj (List.getElem?_eq_getElem (by omega))
theorem Aoj {l : List Evt} {i : Ca} (h : ∀ j x, j < l.length → l[j]? = some x → A2 x ≠ i) : H2 l i = none := by
 unfold H2;rw [List.find?_eq_none];intro x hx;obtain ⟨j, hj⟩ := List.mem_iff_getElem?.1 hx;simpa using h j x (List.getElem?_eq_some_iff.1 hj).1 hj
set_option maxHeartbeats 1000000 in
theorem Ar1 {f : Bool} {l : List Evt} (i : Ca) {h d} (hn : l.length ≤ 1000) : FunOk Tryz.prog 115 [.pv (.sl f 21 (l.map Cn)), .vec 2 [.i .i64 i.1, .i .u32 i.2]] h d (match H2 l i with | some e => .tup [.vec 21 (Cn e), .pv (.b true)] | none => .tup [.vec 21 (Cn ⟨0, 0, fun _ => 0, 0, 0, 0, 0, 0, [], .nil, .nil, 0, [], 0⟩), .pv (.b false)]) [] := by
 refine Iz Aq fn115 (by simp) rfl (by split <;> rfl) fun F => ?_
 (try simp only [Ak, Aj, Ai, Ah, Ag, Af, Ae, Ad]); simp (maxSteps := 10000000) (disch := omega) only [ir115, List.length_map, go_sem]
 refine A1 Aq (Aa9 f l i (.agg [.pv (.i .i64 0), .pv (.i .u32 0), .vec 8 (vE fun _ => 0), .pv (.i .i64 0), .pv (.i .i64 0), .pv (.i .u32 0), .pv (.i .i64 0), .pv (.i .u32 0), .pv (.s []), .pv (.sl true 0 []), .pv (.sl true 0 []), .pv (.i .i64 0), .pv (.s []), .pv (.i .i64 0)])) (fun k => k ≤ l.length ∧ ∀ j x, j < k → l[j]? = some x → A2 x ≠ i) (fun k => l.length - k) 0 ⟨by simp, fun j x hj => absurd hj (Nat.not_lt_zero j)⟩ (An ?_ ?_) fun k hk => ?_
 · (try simp only [Ak, Aj, Ai, Ah, Ag, Af, Ae, Ad]); simp (maxSteps := 10000000) (disch := omega) only [go_sem]
 · (try simp only [Ak, Aj, Ai, Ah, Ag, Af, Ae, Ad]); simp (maxSteps := 10000000) (disch := omega) only [go_sem]
 obtain ⟨hk1, hk2⟩ := hk;by_cases hlt : k < l.length
 · have hx : l[k]? = some l[k] := List.getElem?_eq_getElem hlt;have he : (l.map Cn)[k]? = some (Cn l[k]) := by rw [List.getElem?_map, hx]; rfl
   generalize l[k] = e at *;by_cases hb : A2 e = i
   · have hp := Gs hb;have hf := Azt hk2 hx hb;rw [hf]
     (try simp only [Ak, Aj, Ai, Ah, Ag, Af, Ae, Ad]); simp (maxSteps := 10000000) (disch := omega) only [Aa9, List.length_map, he, Bq, Bm, hp, Dm, go_sem]
     refine Ld ?_
     (try simp only [Ak, Aj, Ai, Ah, Ag, Af, Ae, Ad]); simp (maxSteps := 10000000) (disch := omega) only [go_sem]
   · have hp := Gt hb
     (try simp only [Ak, Aj, Ai, Ah, Ag, Af, Ae, Ad]); simp (maxSteps := 10000000) (disch := omega) only [Aa9, List.length_map, he, Bq, Bm, hp, go_sem]
     refine Al (k + 1) _ _ rfl ⟨by omega, fun j x hj hjx => ?_⟩ (by omega) ?_ ?_
     · by_cases ej : j = k
       · subst ej; rw [hx] at hjx; cases hjx; exact hb
       · exact hk2 j x (by omega) hjx
     · (try simp only [Ak, Aj, Ai, Ah, Ag, Af, Ae, Ad]); simp (maxSteps := 10000000) (disch := omega) only [go_sem]
     · (try simp only [Ak, Aj, Ai, Ah, Ag, Af, Ae, Ad]); simp (maxSteps := 10000000) (disch := omega) only [go_sem]
 · obtain rfl : k = l.length := by omega
   rw [Aoj hk2]
   (try simp only [Ak, Aj, Ai, Ah, Ag, Af, Ae, Ad]); simp (maxSteps := 10000000) (disch := omega) only [Aa9, List.length_map, go_sem]
   refine Ld ?_
   (try simp only [Ak, Aj, Ai, Ah, Ag, Af, Ae, Ad]); simp (maxSteps := 10000000) (disch := omega) only [go_sem]
   exact Aj5 (Mh rfl (by simp [Ac]))
theorem Kt (e : Evt) {h d} : FunOk Tryz.prog 86 [.vec 21 (Cn e)] h d (.pv (.b (decide (e.kind = 3 ∨ e.kind = 4 ∨ e.kind = 5)))) [] := by
 refine A7 Aq fn86 (by simp) rfl rfl fun F => ?_;by_cases h3 : e.kind = 3
 · (try simp only [Ak, Aj, Ai, Ah, Ag, Af, Ae, Ad]); simp (maxSteps := 10000000) (disch := omega) only [ir86, Ax, h3, go_sem]
 by_cases h4 : e.kind = 4
 · (try simp only [Ak, Aj, Ai, Ah, Ag, Af, Ae, Ad]); simp (maxSteps := 10000000) (disch := omega) only [ir86, Ax, h4, go_sem]
 by_cases h5 : e.kind = 5
 · (try simp only [Ak, Aj, Ai, Ah, Ag, Af, Ae, Ad]); simp (maxSteps := 10000000) (disch := omega) only [ir86, Ax, h5, go_sem]
 · (try simp only [Ak, Aj, Ai, Ah, Ag, Af, Ae, Ad]); simp (maxSteps := 10000000) (disch := omega) only [ir86, Ax, h3, h4, h5, go_sem]
def Acx (s : List UInt8) (n : Int) : List UInt8 := if n < 0 ∨ 200 < n then [] else Acy s n.toNat
open Classical in
noncomputable def L3 (s : List UInt8) (n : Int) (t : List UInt8) : List UInt8 := if F3 s n t then [] else Nl s n.toNat t
noncomputable def G7 (e : Evt) (was : List UInt8) : List UInt8 := if e.kind = 5 then e.data else if e.kind = 4 then Acx was e.off else L3 was e.off e.data
noncomputable def Dh (l : List Evt) : Nat → Ca → List UInt8
 | 0, _ => []
 | n + 1, i => match H2 l i with
   | none => []
   | some e => G7 e (match e.base.l with | [] => [] | b :: _ => Dh l n b)
theorem Af8 (s : List UInt8) (n : Nat) : (Acy s n).length = n := by
 unfold Acy; split
 · simp; omega
 · simp [Vo]; omega
theorem Wp (s t : List UInt8) (n : Nat) : (Nl s n t).length = max s.length (n + t.length) := by
 unfold Nl; simp [Vo]; omega
theorem Amb {e : Evt} (he : e.data.length ≤ 1000) (was : List UInt8) : (G7 e was).length ≤ 1000 := by
 unfold G7;split
 · exact he
 · split
   · unfold Acx; split
     · simp
     · rw [Af8]; omega
   · unfold L3; split
     · simp
     · rename_i h;unfold F3 at h;rw [Wp]; omega
theorem Aje {l : List Evt} (h : ∀ e ∈ l, e.data.length ≤ 1000) (n : Nat) (i : Ca) : (Dh l n i).length ≤ 1000 := by
 cases n with
 | zero => simp [Dh]
 | succ n =>
   simp only [Dh];split
   · simp
   · rename_i e he;exact Amb (h e (List.mem_of_find?_eq_some he)) _
def Grd (l : List Evt) (rk : Evt → Nat) : Prop := ∀ e ∈ l, e.kind ≠ 5 → ∀ b t, e.base.l = b :: t → ∀ e', H2 l b = some e' → rk e' < rk e
theorem Abu {l : List Evt} {i : Ca} (hn : l.length ≤ 1000) (hf : H2 l i = none) {x : SV} {f : Bool} {h d} (hx : Ct h [x, .vec 2 [.i .i64 i.1, .i .u32 i.2]] = [.pv (.sl f 21 (l.map Cn)), .vec 2 [.i .i64 i.1, .i .u32 i.2]]) (hl : Bc [x, .vec 2 [.i .i64 i.1, .i .u32 i.2]] = true) :
 FunOk Tryz.prog 87 [x, .vec 2 [.i .i64 i.1, .i .u32 i.2]] h d (.pv (.s [])) [] := by
 refine Cx Aq fn87 (by simp) hl rfl fun F => ?_;rw [hx]
 (try simp only [Ak, Aj, Ai, Ah, Ag, Af, Ae, Ad]); simp (maxSteps := 10000000) (disch := omega) only [ir87, go_sem]
 refine Aa (Ar1 (l := l) i hn) ?_;rw [hf]
 (try simp only [Ak, Aj, Ai, Ah, Ag, Af, Ae, Ad]); simp (maxSteps := 10000000) (disch := omega) only [Ac, go_sem]
set_option maxHeartbeats 4000000 in
theorem Aet {l : List Evt} {rk : Evt → Nat} (hg : Grd l rk) (hn : l.length ≤ 1000) (hev : ∀ e ∈ l, ev e ∧ e.data.length ≤ 1000) : ∀ (n : Nat) (i : Ca), (∀ e, H2 l i = some e → rk e < n) → ∀ (x : SV) (f : Bool) (h : Nat → Option Blk) (d : Nat), Ct h [x, .vec 2 [.i .i64 i.1, .i .u32 i.2]] = [.pv (.sl f 21 (l.map Cn)), .vec 2 [.i .i64 i.1, .i .u32 i.2]] → Bc [x, .vec 2 [.i .i64 i.1, .i .u32 i.2]] = true →
 FunOk Tryz.prog 87 [x, .vec 2 [.i .i64 i.1, .i .u32 i.2]] h d (.pv (.s (Dh l n i))) []
 | 0, i, hr => by
   intro x f h d hx hl;have hf : H2 l i = none := by
    cases hq : H2 l i with
    | none => rfl
    | some e => exact absurd (hr e hq) (Nat.not_lt_zero _)
   exact Abu hn hf hx hl
 | n + 1, i, hr => by
   intro x f h d hx hl;refine Cx Aq fn87 (by simp) hl rfl fun F => ?_;rw [hx]
   (try simp only [Ak, Aj, Ai, Ah, Ag, Af, Ae, Ad]); simp (maxSteps := 10000000) (disch := omega) only [ir87, go_sem]
   refine Aa (Ar1 (l := l) i hn) ?_;cases hf : H2 l i with
   | none =>
     have eB : Dh l (n + 1) i = [] := by simp only [Dh, hf]
     (try simp only [Ak, Aj, Ai, Ah, Ag, Af, Ae, Ad]); simp (maxSteps := 10000000) (disch := omega) only [eB, Ac, go_sem]
   | some e =>
     have hm := List.mem_of_find?_eq_some hf;obtain ⟨he, hd⟩ := hev e hm;have hpv : e.base.pv = .sl e.base.f e.base.z (e.base.l.map Ga) := rfl;have hel := Ac e;by_cases h5 : e.kind = 5
     · have eB : Dh l (n + 1) i = e.data := by simp only [Dh, hf, G7, if_pos h5]
       (try simp only [Ak, Aj, Ai, Ah, Ag, Af, Ae, Ad]); simp (maxSteps := 10000000) (disch := omega) only [hel, Ax, h5, J0, eB, go_sem]
     cases hbl : e.base.l with
     | nil =>
       obtain ⟨was, hwas⟩ : ∃ was : List UInt8, was = [] := ⟨_, rfl⟩
       have hwl : was.length ≤ 1000 := by rw [hwas]; simp
       have eB : Dh l (n + 1) i = G7 e was := by simp only [Dh, hf, hbl]; rw [hwas]
       (try simp only [Ak, Aj, Ai, Ah, Ag, Af, Ae, Ad]); simp (maxSteps := 10000000) (disch := omega) only [hel, Ax, h5, J1, hpv, hbl, List.map_nil, ← hwas, go_sem]
       by_cases h4 : e.kind = 4
       · have eS : G7 e was = Acx was e.off := by unfold G7; rw [if_neg h5, if_pos h4]
         (try simp only [Ak, Aj, Ai, Ah, Ag, Af, Ae, Ad]); simp (maxSteps := 10000000) (disch := omega) only [Ax, h4, Rc, go_sem]
         refine Aa (Ar3 was e.off hwl) ?_;by_cases hb : e.off < 0 ∨ 200 < e.off
         · have ec := O8 (data := was) hb;have ew : Acx was e.off = [] := if_pos hb
           (try simp only [Ak, Aj, Ai, Ah, Ag, Af, Ae, Ad]); simp (maxSteps := 10000000) (disch := omega) only [ec, eB, eS, ew, go_sem]
         · have ec := Xr (data := was) hb;have ew : Acx was e.off = Acy was e.off.toNat := if_neg hb
           (try simp only [Ak, Aj, Ai, Ah, Ag, Af, Ae, Ad]); simp (maxSteps := 10000000) (disch := omega) only [ec, eB, eS, ew, go_sem]
       · have eS : G7 e was = L3 was e.off e.data := by unfold G7; rw [if_neg h5, if_neg h4]
         (try simp only [Ak, Aj, Ai, Ah, Ag, Af, Ae, Ad]); simp (maxSteps := 10000000) (disch := omega) only [Ax, h4, Rc, J0, go_sem]
         refine Aa (Aer was e.data e.off hd) ?_;by_cases hb : F3 was e.off e.data
         · have ec := Hg hb;have ew : L3 was e.off e.data = [] := if_pos hb
           (try simp only [Ak, Aj, Ai, Ah, Ag, Af, Ae, Ad]); simp (maxSteps := 10000000) (disch := omega) only [ec, eB, eS, ew, go_sem]
         · have ec := Sm hb;have ew : L3 was e.off e.data = Nl was e.off.toNat e.data := if_neg hb
           (try simp only [Ak, Aj, Ai, Ah, Ag, Af, Ae, Ad]); simp (maxSteps := 10000000) (disch := omega) only [ec, eB, eS, ew, go_sem]
     | cons b t =>
       have hok : e.base.z = 2 := he.2.1.resolve_left (by rw [hbl]; simp);have h0 : (List.map Ga (b :: t))[0]? = some (Ga b) := rfl;have hpos : (0 : Int) < ((t.length : Int) + 1) := by omega
       have hrk := hg e hm h5 b t hbl;have hre := hr e hf
       (try simp only [Ak, Aj, Ai, Ah, Ag, Af, Ae, Ad]); simp (maxSteps := 10000000) (disch := omega) only [hel, Ax, h5, J1, hpv, hbl, hok, List.length_map, h0, Ic, go_sem]
       refine Aa (Aet hg hn hev n b (fun e' he' => by have := hrk e' he'; omega) _ f _ _ rfl rfl) ?_;have eB : Dh l (n + 1) i = G7 e (Dh l n b) := by simp only [Dh, hf, hbl]
       have hwl := Aje (fun e he => (hev e he).2) n b (l := l);generalize Dh l n b = was at *
       (try simp only [Ak, Aj, Ai, Ah, Ag, Af, Ae, Ad]); simp (maxSteps := 10000000) (disch := omega) only [go_sem]
       by_cases h4 : e.kind = 4
       · have eS : G7 e was = Acx was e.off := by unfold G7; rw [if_neg h5, if_pos h4]
         (try simp only [Ak, Aj, Ai, Ah, Ag, Af, Ae, Ad]); simp (maxSteps := 10000000) (disch := omega) only [Ax, h4, Rc, go_sem]
         refine Aa (Ar3 was e.off hwl) ?_;by_cases hb : e.off < 0 ∨ 200 < e.off
         · have ec := O8 (data := was) hb;have ew : Acx was e.off = [] := if_pos hb
           (try simp only [Ak, Aj, Ai, Ah, Ag, Af, Ae, Ad]); simp (maxSteps := 10000000) (disch := omega) only [ec, eB, eS, ew, go_sem]
         · have ec := Xr (data := was) hb;have ew : Acx was e.off = Acy was e.off.toNat := if_neg hb
           (try simp only [Ak, Aj, Ai, Ah, Ag, Af, Ae, Ad]); simp (maxSteps := 10000000) (disch := omega) only [ec, eB, eS, ew, go_sem]
       · have eS : G7 e was = L3 was e.off e.data := by unfold G7; rw [if_neg h5, if_neg h4]
         (try simp only [Ak, Aj, Ai, Ah, Ag, Af, Ae, Ad]); simp (maxSteps := 10000000) (disch := omega) only [Ax, h4, Rc, J0, go_sem]
         refine Aa (Aer was e.data e.off hd) ?_;by_cases hb : F3 was e.off e.data
         · have ec := Hg hb;have ew : L3 was e.off e.data = [] := if_pos hb
           (try simp only [Ak, Aj, Ai, Ah, Ag, Af, Ae, Ad]); simp (maxSteps := 10000000) (disch := omega) only [ec, eB, eS, ew, go_sem]
         · have ec := Sm hb;have ew : L3 was e.off e.data = Nl was e.off.toNat e.data := if_neg hb
           (try simp only [Ak, Aj, Ai, Ah, Ag, Af, Ae, Ad]); simp (maxSteps := 10000000) (disch := omega) only [ec, eB, eS, ew, go_sem]
def mkB (e : Evt) : Bool := decide (e.kind = 1 ∨ e.kind = 2 ∨ e.kind = 7)
def Fk (e : Evt) : Ca := if e.kind = 7 then Cv e else A2 e
def Jf (f : Evt) (obj id : Ca) : Bool := decide (f.kind = 6 ∨ f.kind = 7) && (decide (Cv f = obj) && decide (id ∈ f.gone.l))
def byG (l : List Evt) (obj id : Ca) : Vc := l.foldl (fun g f => if Jf f obj id = true then Br g f.rep f.seq else g) fun _ => 0
theorem X1 (l : List Evt) (f : Evt) (obj id : Ca) : byG (l ++ [f]) obj id = if Jf f obj id = true then Br (byG l obj id) f.rep f.seq else byG l obj id := by simp [byG]
def D8 (m : List Evt) (e : Evt) : Ent := ⟨A2 e, Alm e, e.name, Fk e, byG m (Fk e) (A2 e)⟩
def Eh (l m : List Evt) : List Ent := m.foldl (fun out e => if mkB e = true then Ev out (D8 l e) false else out) []
theorem Qb (l m : List Evt) (e : Evt) : Eh l (m ++ [e]) = if mkB e = true then Ev (Eh l m) (D8 l e) false else Eh l m := by simp [Eh]
theorem Sl : ∀ (l : List Ent) (x : Ent) (b : Bool), (Ev l x b).length ≤ l.length + 1
 | [], x, b => by unfold Ev; split <;> simp
 | y :: l, x, b => by
   unfold Ev;split
   · have := Sl l x true; simp only [List.length_cons]; omega
   · split
     · have : Ev l x true = Ev l x true := rfl;have h2 : ∀ l : List Ent, (Ev l x true).length ≤ l.length := fun l => by
        induction l with
        | nil => simp [Ev]
        | cons z l ih => unfold Ev; split <;> simp <;> omega
       have := h2 l;simp only [List.length_cons]; omega
     · have := Sl l x b; simp only [List.length_cons]; omega
theorem O6 (l : List Evt) : ∀ (n : Nat) (m : List Evt), m.length = n → (Eh l m).length ≤ n
 | 0, m, h => by obtain rfl := List.eq_nil_of_length_eq_zero h; simp [Eh]
 | n + 1, m, h => by
   have hne : m ≠ [] := fun e => by subst e; simp at h
   have e1 := (List.dropLast_concat_getLast hne).symm;have h1 := O6 l n m.dropLast (by simp [h]);rw [e1, Qb];split
   · have := Sl (Eh l m.dropLast) (D8 l (m.getLast hne)) false; omega
   · omega
def Ze (f : Bool) (l : List Evt) (k : Nat) : FS := mk [(4, .pv (.i .i64 k)), (3, .os 40), (0, .pv (.sl f 21 (l.map Cn)))] [(40, some (.row 15 ((Eh l (l.take k)).map Bk)))]
def D2 (f : Bool) (l : List Evt) (k : Nat) (e : Evt) (j : Nat) : FS := mk [(7, .pv (.i .i64 j)), (4, .pv (.i .i64 k)), (3, .os 40), (6, .p 6 0), (0, .pv (.sl f 21 (l.map Cn)))] [(6, some (.var (.vec 15 (Bk (D8 (l.take j) e))))), (40, some (.row 15 ((Eh l (l.take k)).map Bk)))]
set_option maxHeartbeats 8000000 in
theorem Zt {x : SV} {f : Bool} {l : List Evt} {h d} (hx : Ct h [x] = [.pv (.sl f 21 (l.map Cn))]) (hl : Bc [x] = true) (hn : l.length ≤ 1000) (hev : ∀ e ∈ l, ev e) : FunOk Tryz.prog 15 [x] h d (.pv (.sl false 15 ((Eh l l).map Bk))) [] := by
 refine Iy Aq fn15 (by simp) hl (Z8 _) fun F => ?_;rw [hx]
 (try simp only [Ak, Aj, Ai, Ah, Ag, Af, Ae, Ad]); simp (maxSteps := 10000000) (disch := omega) only [ir15, go_sem]
 refine A1 Aq (Ze f l) (fun k => k ≤ l.length) (fun k => l.length - k) 0 (by simp) (Na 3 40 15 rfl (by omega) (An ?_ ?_)) fun k hk => ?_
 · (try simp only [Ak, Aj, Ai, Ah, Ag, Af, Ae, Ad]); simp (maxSteps := 10000000) (disch := omega) only [go_sem]
 · (try simp only [Ak, Aj, Ai, Ah, Ag, Af, Ae, Ad]); simp (maxSteps := 10000000) (disch := omega) only [Eh, List.take_zero, List.foldl_nil, List.map_nil, go_sem]
 by_cases hlt : k < l.length
 · have hx : l[k]? = some l[k] := List.getElem?_eq_getElem hlt;have he : (l.map Cn)[k]? = some (Cn l[k]) := by rw [List.getElem?_map, hx]; rfl
   have ht := Dt hx;have hel := Ac l[k];have hsn := Qb l (l.take k) l[k];rw [← ht] at hsn;generalize l[k] = e at *;have hlen := O6 l _ (l.take k) rfl;have hlt' : (l.take k).length ≤ 1000 := by simp; omega
   by_cases hmk : mkB e = true;rotate_left
   · rw [if_neg hmk] at hsn;have hk3 : ¬ (e.kind = 1 ∨ e.kind = 2 ∨ e.kind = 7) := by simpa [mkB] using hmk
     have n1 : ¬ e.kind = 1 := by omega
     have n2 : ¬ e.kind = 2 := by omega
     have n7 : ¬ e.kind = 7 := by omega
     (try simp only [Ak, Aj, Ai, Ah, Ag, Af, Ae, Ad]); simp (maxSteps := 10000000) (disch := omega) only [Ze, List.length_map, he, Dm, hel, Ax, n1, n2, n7, go_sem]
     refine Al (k + 1) _ _ rfl (by omega) (by omega) ?_ ?_
     · (try simp only [Ak, Aj, Ai, Ah, Ag, Af, Ae, Ad]); simp (maxSteps := 10000000) (disch := omega) only [go_sem]
     · (try simp only [Ak, Aj, Ai, Ah, Ag, Af, Ae, Ad]); simp (maxSteps := 10000000) (disch := omega) only [hsn, go_sem]
   rw [if_pos hmk] at hsn;have hk3 : e.kind = 1 ∨ e.kind = 2 ∨ e.kind = 7 := by simpa [mkB] using hmk
   rcases hk3 with h1 | h2 | h7
   · have hoi : Fk e = A2 e := if_neg (by omega)
     (try simp only [Ak, Aj, Ai, Ah, Ag, Af, Ae, Ad]); simp (maxSteps := 10000000) (disch := omega) only [Ze, List.length_map, he, Dm, hel, Ax, h1, Bq, Ja, Fo, go_sem]
     refine A1 Aq (D2 f l k e) (fun j => j ≤ l.length) (fun j => l.length - j) 0 (by simp) (An ?_ ?_) fun j hj => ?_
     · (try simp only [Ak, Aj, Ai, Ah, Ag, Af, Ae, Ad]); simp (maxSteps := 10000000) (disch := omega) only [go_sem]
     · (try simp only [Ak, Aj, Ai, Ah, Ag, Af, Ae, Ad]); simp (maxSteps := 10000000) (disch := omega) only [D8, byG, List.take_zero, List.foldl_nil, hoi, go_sem]
       exact Mh rfl (C7 _)
     by_cases hjl : j < l.length
     · have hx2 : l[j]? = some l[j] := List.getElem?_eq_getElem hjl;have he2 : (l.map Cn)[j]? = some (Cn l[j]) := by rw [List.getElem?_map, hx2]; rfl
       have ht2 := Dt hx2;have hevj := hev _ (List.getElem_mem hjl);generalize l[j] = g at *;have hB : D8 (l.take (j + 1)) e = if Jf g (Fk e) (A2 e) = true then { D8 (l.take j) e with gone := Br (D8 (l.take j) e).gone g.rep g.seq } else D8 (l.take j) e := by
        unfold D8; rw [ht2, X1]; split <;> rfl
       have hob : (D8 (l.take j) e).obj = Fk e := rfl;have hid : (D8 (l.take j) e).id = A2 e := rfl;generalize hX : D8 (l.take j) e = X at *;by_cases hg : g.kind = 6 ∨ g.kind = 7;rotate_left
       · have g6 : ¬ g.kind = 6 := fun q => hg (.inl q);have g7 : ¬ g.kind = 7 := fun q => hg (.inr q);have hgo : ¬ Jf g (Fk e) (A2 e) = true := by unfold Jf; simp [hg]
         rw [if_neg hgo] at hB
         (try simp only [Ak, Aj, Ai, Ah, Ag, Af, Ae, Ad]); simp (maxSteps := 10000000) (disch := omega) only [D2, hX, List.length_map, he2, Ax, g6, g7, go_sem]
         refine Al (j + 1) _ _ rfl (by omega) (by omega) ?_ ?_
         · (try simp only [Ak, Aj, Ai, Ah, Ag, Af, Ae, Ad]); simp (maxSteps := 10000000) (disch := omega) only [go_sem]
         · (try simp only [Ak, Aj, Ai, Ah, Ag, Af, Ae, Ad]); simp (maxSteps := 10000000) (disch := omega) only [hB, go_sem]
       have hg' := hg;rcases hg with hg6 | hg7
       · skip
         by_cases ho : Cv g = X.obj;rotate_left
         · have hp := Gt ho;have hgo : ¬ Jf g (Fk e) (A2 e) = true := by
            rw [hob] at ho; unfold Jf; simp [ho]
           rw [if_neg hgo] at hB
           (try simp only [Ak, Aj, Ai, Ah, Ag, Af, Ae, Ad]); simp (maxSteps := 10000000) (disch := omega) only [D2, hX, List.length_map, he2, Ax, hg6, Bj, Cr, Bm, Bs, hp, go_sem]
           refine Al (j + 1) _ _ rfl (by omega) (by omega) ?_ ?_
           · (try simp only [Ak, Aj, Ai, Ah, Ag, Af, Ae, Ad]); simp (maxSteps := 10000000) (disch := omega) only [go_sem]
           · (try simp only [Ak, Aj, Ai, Ah, Ag, Af, Ae, Ad]); simp (maxSteps := 10000000) (disch := omega) only [hB, go_sem]
         have hp := Gs ho;have hpv : g.gone.pv = .sl g.gone.f g.gone.z (g.gone.l.map Ga) := rfl
         (try simp only [Ak, Aj, Ai, Ah, Ag, Af, Ae, Ad]); simp (maxSteps := 10000000) (disch := omega) only [D2, hX, List.length_map, he2, Ax, hg6, Bj, Cr, Bm, Bs, hp, Hv, Dv, go_sem]
         refine Aa (Py g.gone X.id hevj.1 hevj.2.2.1) ?_;by_cases hin : X.id ∈ g.gone.l
         · have hgo : Jf g (Fk e) (A2 e) = true := by
            rw [hob] at ho; rw [hid] at hin; unfold Jf; simp [hg', ho, hin]
           rw [if_pos hgo] at hB;have hsp := Hd X (Br X.gone g.rep g.seq);have hvl := Bh (Br X.gone g.rep g.seq)
           (try simp only [Ak, Aj, Ai, Ah, Ag, Af, Ae, Ad]); simp (maxSteps := 10000000) (disch := omega) only [hin, Fa, List.length_map, he2, Bq, go_sem]
           refine Aa (Es _ _ _) ?_
           (try simp only [Ak, Aj, Ai, Ah, Ag, Af, Ae, Ad]); simp (maxSteps := 10000000) (disch := omega) only [hsp, hvl, go_sem]
           refine Al (j + 1) _ _ rfl (by omega) (by omega) ?_ ?_
           · (try simp only [Ak, Aj, Ai, Ah, Ag, Af, Ae, Ad]); simp (maxSteps := 10000000) (disch := omega) only [go_sem]
           · (try simp only [Ak, Aj, Ai, Ah, Ag, Af, Ae, Ad]); simp (maxSteps := 10000000) (disch := omega) only [hB, go_sem]
         · have hgo : ¬ Jf g (Fk e) (A2 e) = true := by
            rw [hid] at hin; unfold Jf; simp [hin]
           rw [if_neg hgo] at hB
           (try simp only [Ak, Aj, Ai, Ah, Ag, Af, Ae, Ad]); simp (maxSteps := 10000000) (disch := omega) only [hin, go_sem]
           refine Al (j + 1) _ _ rfl (by omega) (by omega) ?_ ?_
           · (try simp only [Ak, Aj, Ai, Ah, Ag, Af, Ae, Ad]); simp (maxSteps := 10000000) (disch := omega) only [go_sem]
           · (try simp only [Ak, Aj, Ai, Ah, Ag, Af, Ae, Ad]); simp (maxSteps := 10000000) (disch := omega) only [hB, go_sem]
       · have g6 : ¬ g.kind = 6 := by omega
         by_cases ho : Cv g = X.obj;rotate_left
         · have hp := Gt ho;have hgo : ¬ Jf g (Fk e) (A2 e) = true := by
            rw [hob] at ho; unfold Jf; simp [ho]
           rw [if_neg hgo] at hB
           (try simp only [Ak, Aj, Ai, Ah, Ag, Af, Ae, Ad]); simp (maxSteps := 10000000) (disch := omega) only [D2, hX, List.length_map, he2, Ax, g6, hg7, Bj, Cr, Bm, Bs, hp, go_sem]
           refine Al (j + 1) _ _ rfl (by omega) (by omega) ?_ ?_
           · (try simp only [Ak, Aj, Ai, Ah, Ag, Af, Ae, Ad]); simp (maxSteps := 10000000) (disch := omega) only [go_sem]
           · (try simp only [Ak, Aj, Ai, Ah, Ag, Af, Ae, Ad]); simp (maxSteps := 10000000) (disch := omega) only [hB, go_sem]
         have hp := Gs ho;have hpv : g.gone.pv = .sl g.gone.f g.gone.z (g.gone.l.map Ga) := rfl
         (try simp only [Ak, Aj, Ai, Ah, Ag, Af, Ae, Ad]); simp (maxSteps := 10000000) (disch := omega) only [D2, hX, List.length_map, he2, Ax, g6, hg7, Bj, Cr, Bm, Bs, hp, Hv, Dv, go_sem]
         refine Aa (Py g.gone X.id hevj.1 hevj.2.2.1) ?_;by_cases hin : X.id ∈ g.gone.l
         · have hgo : Jf g (Fk e) (A2 e) = true := by
            rw [hob] at ho; rw [hid] at hin; unfold Jf; simp [hg', ho, hin]
           rw [if_pos hgo] at hB;have hsp := Hd X (Br X.gone g.rep g.seq);have hvl := Bh (Br X.gone g.rep g.seq)
           (try simp only [Ak, Aj, Ai, Ah, Ag, Af, Ae, Ad]); simp (maxSteps := 10000000) (disch := omega) only [hin, Fa, List.length_map, he2, Bq, go_sem]
           refine Aa (Es _ _ _) ?_
           (try simp only [Ak, Aj, Ai, Ah, Ag, Af, Ae, Ad]); simp (maxSteps := 10000000) (disch := omega) only [hsp, hvl, go_sem]
           refine Al (j + 1) _ _ rfl (by omega) (by omega) ?_ ?_
           · (try simp only [Ak, Aj, Ai, Ah, Ag, Af, Ae, Ad]); simp (maxSteps := 10000000) (disch := omega) only [go_sem]
           · (try simp only [Ak, Aj, Ai, Ah, Ag, Af, Ae, Ad]); simp (maxSteps := 10000000) (disch := omega) only [hB, go_sem]
         · have hgo : ¬ Jf g (Fk e) (A2 e) = true := by
            rw [hid] at hin; unfold Jf; simp [hin]
           rw [if_neg hgo] at hB
           (try simp only [Ak, Aj, Ai, Ah, Ag, Af, Ae, Ad]); simp (maxSteps := 10000000) (disch := omega) only [hin, go_sem]
           refine Al (j + 1) _ _ rfl (by omega) (by omega) ?_ ?_
           · (try simp only [Ak, Aj, Ai, Ah, Ag, Af, Ae, Ad]); simp (maxSteps := 10000000) (disch := omega) only [go_sem]
           · (try simp only [Ak, Aj, Ai, Ah, Ag, Af, Ae, Ad]); simp (maxSteps := 10000000) (disch := omega) only [hB, go_sem]
     · obtain rfl : j = l.length := by omega
       have htk : l.take l.length = l := List.take_length
       (try simp only [Ak, Aj, Ai, Ah, Ag, Af, Ae, Ad]); simp (maxSteps := 10000000) (disch := omega) only [D2, List.length_map, htk, Ge, go_sem]
       refine Aa (Abr (l := Eh l (l.take k)) (D8 l e) rfl rfl (by omega)) ?_
       (try simp only [Ak, Aj, Ai, Ah, Ag, Af, Ae, Ad]); simp (maxSteps := 10000000) (disch := omega) only [go_sem]
       refine ⟨k + 1, by omega, by omega, Eu 40 rfl (Cf 99 40 (by decide) rfl (An ?_ ?_))⟩
       · (try simp only [Ak, Aj, Ai, Ah, Ag, Af, Ae, Ad]); simp (maxSteps := 10000000) (disch := omega) only [go_sem]
       · (try simp only [Ak, Aj, Ai, Ah, Ag, Af, Ae, Ad]); simp (maxSteps := 10000000) (disch := omega) only [hsn, go_sem]
   · have hoi : Fk e = A2 e := if_neg (by omega);have n1 : ¬ e.kind = 1 := by omega
     (try simp only [Ak, Aj, Ai, Ah, Ag, Af, Ae, Ad]); simp (maxSteps := 10000000) (disch := omega) only [Ze, List.length_map, he, Dm, hel, Ax, n1, h2, Bq, Ja, Fo, go_sem]
     refine A1 Aq (D2 f l k e) (fun j => j ≤ l.length) (fun j => l.length - j) 0 (by simp) (An ?_ ?_) fun j hj => ?_
     · (try simp only [Ak, Aj, Ai, Ah, Ag, Af, Ae, Ad]); simp (maxSteps := 10000000) (disch := omega) only [go_sem]
     · (try simp only [Ak, Aj, Ai, Ah, Ag, Af, Ae, Ad]); simp (maxSteps := 10000000) (disch := omega) only [D8, byG, List.take_zero, List.foldl_nil, hoi, go_sem]
       exact Mh rfl (C7 _)
     by_cases hjl : j < l.length
     · have hx2 : l[j]? = some l[j] := List.getElem?_eq_getElem hjl;have he2 : (l.map Cn)[j]? = some (Cn l[j]) := by rw [List.getElem?_map, hx2]; rfl
       have ht2 := Dt hx2;have hevj := hev _ (List.getElem_mem hjl);generalize l[j] = g at *;have hB : D8 (l.take (j + 1)) e = if Jf g (Fk e) (A2 e) = true then { D8 (l.take j) e with gone := Br (D8 (l.take j) e).gone g.rep g.seq } else D8 (l.take j) e := by
        unfold D8; rw [ht2, X1]; split <;> rfl
       have hob : (D8 (l.take j) e).obj = Fk e := rfl;have hid : (D8 (l.take j) e).id = A2 e := rfl;generalize hX : D8 (l.take j) e = X at *;by_cases hg : g.kind = 6 ∨ g.kind = 7;rotate_left
       · have g6 : ¬ g.kind = 6 := fun q => hg (.inl q);have g7 : ¬ g.kind = 7 := fun q => hg (.inr q);have hgo : ¬ Jf g (Fk e) (A2 e) = true := by unfold Jf; simp [hg]
         rw [if_neg hgo] at hB
         (try simp only [Ak, Aj, Ai, Ah, Ag, Af, Ae, Ad]); simp (maxSteps := 10000000) (disch := omega) only [D2, hX, List.length_map, he2, Ax, g6, g7, go_sem]
         refine Al (j + 1) _ _ rfl (by omega) (by omega) ?_ ?_
         · (try simp only [Ak, Aj, Ai, Ah, Ag, Af, Ae, Ad]); simp (maxSteps := 10000000) (disch := omega) only [go_sem]
         · (try simp only [Ak, Aj, Ai, Ah, Ag, Af, Ae, Ad]); simp (maxSteps := 10000000) (disch := omega) only [hB, go_sem]
       have hg' := hg;rcases hg with hg6 | hg7
       · skip
         by_cases ho : Cv g = X.obj;rotate_left
         · have hp := Gt ho;have hgo : ¬ Jf g (Fk e) (A2 e) = true := by
            rw [hob] at ho; unfold Jf; simp [ho]
           rw [if_neg hgo] at hB
           (try simp only [Ak, Aj, Ai, Ah, Ag, Af, Ae, Ad]); simp (maxSteps := 10000000) (disch := omega) only [D2, hX, List.length_map, he2, Ax, hg6, Bj, Cr, Bm, Bs, hp, go_sem]
           refine Al (j + 1) _ _ rfl (by omega) (by omega) ?_ ?_
           · (try simp only [Ak, Aj, Ai, Ah, Ag, Af, Ae, Ad]); simp (maxSteps := 10000000) (disch := omega) only [go_sem]
           · (try simp only [Ak, Aj, Ai, Ah, Ag, Af, Ae, Ad]); simp (maxSteps := 10000000) (disch := omega) only [hB, go_sem]
         have hp := Gs ho;have hpv : g.gone.pv = .sl g.gone.f g.gone.z (g.gone.l.map Ga) := rfl
         (try simp only [Ak, Aj, Ai, Ah, Ag, Af, Ae, Ad]); simp (maxSteps := 10000000) (disch := omega) only [D2, hX, List.length_map, he2, Ax, hg6, Bj, Cr, Bm, Bs, hp, Hv, Dv, go_sem]
         refine Aa (Py g.gone X.id hevj.1 hevj.2.2.1) ?_;by_cases hin : X.id ∈ g.gone.l
         · have hgo : Jf g (Fk e) (A2 e) = true := by
            rw [hob] at ho; rw [hid] at hin; unfold Jf; simp [hg', ho, hin]
           rw [if_pos hgo] at hB;have hsp := Hd X (Br X.gone g.rep g.seq);have hvl := Bh (Br X.gone g.rep g.seq)
           (try simp only [Ak, Aj, Ai, Ah, Ag, Af, Ae, Ad]); simp (maxSteps := 10000000) (disch := omega) only [hin, Fa, List.length_map, he2, Bq, go_sem]
           refine Aa (Es _ _ _) ?_
           (try simp only [Ak, Aj, Ai, Ah, Ag, Af, Ae, Ad]); simp (maxSteps := 10000000) (disch := omega) only [hsp, hvl, go_sem]
           refine Al (j + 1) _ _ rfl (by omega) (by omega) ?_ ?_
           · (try simp only [Ak, Aj, Ai, Ah, Ag, Af, Ae, Ad]); simp (maxSteps := 10000000) (disch := omega) only [go_sem]
           · (try simp only [Ak, Aj, Ai, Ah, Ag, Af, Ae, Ad]); simp (maxSteps := 10000000) (disch := omega) only [hB, go_sem]
         · have hgo : ¬ Jf g (Fk e) (A2 e) = true := by
            rw [hid] at hin; unfold Jf; simp [hin]
           rw [if_neg hgo] at hB
           (try simp only [Ak, Aj, Ai, Ah, Ag, Af, Ae, Ad]); simp (maxSteps := 10000000) (disch := omega) only [hin, go_sem]
           refine Al (j + 1) _ _ rfl (by omega) (by omega) ?_ ?_
           · (try simp only [Ak, Aj, Ai, Ah, Ag, Af, Ae, Ad]); simp (maxSteps := 10000000) (disch := omega) only [go_sem]
           · (try simp only [Ak, Aj, Ai, Ah, Ag, Af, Ae, Ad]); simp (maxSteps := 10000000) (disch := omega) only [hB, go_sem]
       · have g6 : ¬ g.kind = 6 := by omega
         by_cases ho : Cv g = X.obj;rotate_left
         · have hp := Gt ho;have hgo : ¬ Jf g (Fk e) (A2 e) = true := by
            rw [hob] at ho; unfold Jf; simp [ho]
           rw [if_neg hgo] at hB
           (try simp only [Ak, Aj, Ai, Ah, Ag, Af, Ae, Ad]); simp (maxSteps := 10000000) (disch := omega) only [D2, hX, List.length_map, he2, Ax, g6, hg7, Bj, Cr, Bm, Bs, hp, go_sem]
           refine Al (j + 1) _ _ rfl (by omega) (by omega) ?_ ?_
           · (try simp only [Ak, Aj, Ai, Ah, Ag, Af, Ae, Ad]); simp (maxSteps := 10000000) (disch := omega) only [go_sem]
           · (try simp only [Ak, Aj, Ai, Ah, Ag, Af, Ae, Ad]); simp (maxSteps := 10000000) (disch := omega) only [hB, go_sem]
         have hp := Gs ho;have hpv : g.gone.pv = .sl g.gone.f g.gone.z (g.gone.l.map Ga) := rfl
         (try simp only [Ak, Aj, Ai, Ah, Ag, Af, Ae, Ad]); simp (maxSteps := 10000000) (disch := omega) only [D2, hX, List.length_map, he2, Ax, g6, hg7, Bj, Cr, Bm, Bs, hp, Hv, Dv, go_sem]
         refine Aa (Py g.gone X.id hevj.1 hevj.2.2.1) ?_;by_cases hin : X.id ∈ g.gone.l
         · have hgo : Jf g (Fk e) (A2 e) = true := by
            rw [hob] at ho; rw [hid] at hin; unfold Jf; simp [hg', ho, hin]
           rw [if_pos hgo] at hB;have hsp := Hd X (Br X.gone g.rep g.seq);have hvl := Bh (Br X.gone g.rep g.seq)
           (try simp only [Ak, Aj, Ai, Ah, Ag, Af, Ae, Ad]); simp (maxSteps := 10000000) (disch := omega) only [hin, Fa, List.length_map, he2, Bq, go_sem]
           refine Aa (Es _ _ _) ?_
           (try simp only [Ak, Aj, Ai, Ah, Ag, Af, Ae, Ad]); simp (maxSteps := 10000000) (disch := omega) only [hsp, hvl, go_sem]
           refine Al (j + 1) _ _ rfl (by omega) (by omega) ?_ ?_
           · (try simp only [Ak, Aj, Ai, Ah, Ag, Af, Ae, Ad]); simp (maxSteps := 10000000) (disch := omega) only [go_sem]
           · (try simp only [Ak, Aj, Ai, Ah, Ag, Af, Ae, Ad]); simp (maxSteps := 10000000) (disch := omega) only [hB, go_sem]
         · have hgo : ¬ Jf g (Fk e) (A2 e) = true := by
            rw [hid] at hin; unfold Jf; simp [hin]
           rw [if_neg hgo] at hB
           (try simp only [Ak, Aj, Ai, Ah, Ag, Af, Ae, Ad]); simp (maxSteps := 10000000) (disch := omega) only [hin, go_sem]
           refine Al (j + 1) _ _ rfl (by omega) (by omega) ?_ ?_
           · (try simp only [Ak, Aj, Ai, Ah, Ag, Af, Ae, Ad]); simp (maxSteps := 10000000) (disch := omega) only [go_sem]
           · (try simp only [Ak, Aj, Ai, Ah, Ag, Af, Ae, Ad]); simp (maxSteps := 10000000) (disch := omega) only [hB, go_sem]
     · obtain rfl : j = l.length := by omega
       have htk : l.take l.length = l := List.take_length
       (try simp only [Ak, Aj, Ai, Ah, Ag, Af, Ae, Ad]); simp (maxSteps := 10000000) (disch := omega) only [D2, List.length_map, htk, Ge, go_sem]
       refine Aa (Abr (l := Eh l (l.take k)) (D8 l e) rfl rfl (by omega)) ?_
       (try simp only [Ak, Aj, Ai, Ah, Ag, Af, Ae, Ad]); simp (maxSteps := 10000000) (disch := omega) only [go_sem]
       refine ⟨k + 1, by omega, by omega, Eu 40 rfl (Cf 99 40 (by decide) rfl (An ?_ ?_))⟩
       · (try simp only [Ak, Aj, Ai, Ah, Ag, Af, Ae, Ad]); simp (maxSteps := 10000000) (disch := omega) only [go_sem]
       · (try simp only [Ak, Aj, Ai, Ah, Ag, Af, Ae, Ad]); simp (maxSteps := 10000000) (disch := omega) only [hsn, go_sem]
   · have hoi : Fk e = Cv e := if_pos h7;have n1 : ¬ e.kind = 1 := by omega
     have n2 : ¬ e.kind = 2 := by omega
     (try simp only [Ak, Aj, Ai, Ah, Ag, Af, Ae, Ad]); simp (maxSteps := 10000000) (disch := omega) only [Ze, List.length_map, he, Dm, hel, Ax, n1, n2, h7, Bq, Ja, Fo, Bj, go_sem]
     refine A1 Aq (D2 f l k e) (fun j => j ≤ l.length) (fun j => l.length - j) 0 (by simp) (An ?_ ?_) fun j hj => ?_
     · (try simp only [Ak, Aj, Ai, Ah, Ag, Af, Ae, Ad]); simp (maxSteps := 10000000) (disch := omega) only [go_sem]
     · (try simp only [Ak, Aj, Ai, Ah, Ag, Af, Ae, Ad]); simp (maxSteps := 10000000) (disch := omega) only [D8, byG, List.take_zero, List.foldl_nil, hoi, go_sem]
       exact Mh rfl (C7 _)
     by_cases hjl : j < l.length
     · have hx2 : l[j]? = some l[j] := List.getElem?_eq_getElem hjl;have he2 : (l.map Cn)[j]? = some (Cn l[j]) := by rw [List.getElem?_map, hx2]; rfl
       have ht2 := Dt hx2;have hevj := hev _ (List.getElem_mem hjl);generalize l[j] = g at *;have hB : D8 (l.take (j + 1)) e = if Jf g (Fk e) (A2 e) = true then { D8 (l.take j) e with gone := Br (D8 (l.take j) e).gone g.rep g.seq } else D8 (l.take j) e := by
        unfold D8; rw [ht2, X1]; split <;> rfl
       have hob : (D8 (l.take j) e).obj = Fk e := rfl;have hid : (D8 (l.take j) e).id = A2 e := rfl;generalize hX : D8 (l.take j) e = X at *;by_cases hg : g.kind = 6 ∨ g.kind = 7;rotate_left
       · have g6 : ¬ g.kind = 6 := fun q => hg (.inl q);have g7 : ¬ g.kind = 7 := fun q => hg (.inr q);have hgo : ¬ Jf g (Fk e) (A2 e) = true := by unfold Jf; simp [hg]
         rw [if_neg hgo] at hB
         (try simp only [Ak, Aj, Ai, Ah, Ag, Af, Ae, Ad]); simp (maxSteps := 10000000) (disch := omega) only [D2, hX, List.length_map, he2, Ax, g6, g7, go_sem]
         refine Al (j + 1) _ _ rfl (by omega) (by omega) ?_ ?_
         · (try simp only [Ak, Aj, Ai, Ah, Ag, Af, Ae, Ad]); simp (maxSteps := 10000000) (disch := omega) only [go_sem]
         · (try simp only [Ak, Aj, Ai, Ah, Ag, Af, Ae, Ad]); simp (maxSteps := 10000000) (disch := omega) only [hB, go_sem]
       have hg' := hg;rcases hg with hg6 | hg7
       · skip
         by_cases ho : Cv g = X.obj;rotate_left
         · have hp := Gt ho;have hgo : ¬ Jf g (Fk e) (A2 e) = true := by
            rw [hob] at ho; unfold Jf; simp [ho]
           rw [if_neg hgo] at hB
           (try simp only [Ak, Aj, Ai, Ah, Ag, Af, Ae, Ad]); simp (maxSteps := 10000000) (disch := omega) only [D2, hX, List.length_map, he2, Ax, hg6, Bj, Cr, Bm, Bs, hp, go_sem]
           refine Al (j + 1) _ _ rfl (by omega) (by omega) ?_ ?_
           · (try simp only [Ak, Aj, Ai, Ah, Ag, Af, Ae, Ad]); simp (maxSteps := 10000000) (disch := omega) only [go_sem]
           · (try simp only [Ak, Aj, Ai, Ah, Ag, Af, Ae, Ad]); simp (maxSteps := 10000000) (disch := omega) only [hB, go_sem]
         have hp := Gs ho;have hpv : g.gone.pv = .sl g.gone.f g.gone.z (g.gone.l.map Ga) := rfl
         (try simp only [Ak, Aj, Ai, Ah, Ag, Af, Ae, Ad]); simp (maxSteps := 10000000) (disch := omega) only [D2, hX, List.length_map, he2, Ax, hg6, Bj, Cr, Bm, Bs, hp, Hv, Dv, go_sem]
         refine Aa (Py g.gone X.id hevj.1 hevj.2.2.1) ?_;by_cases hin : X.id ∈ g.gone.l
         · have hgo : Jf g (Fk e) (A2 e) = true := by
            rw [hob] at ho; rw [hid] at hin; unfold Jf; simp [hg', ho, hin]
           rw [if_pos hgo] at hB;have hsp := Hd X (Br X.gone g.rep g.seq);have hvl := Bh (Br X.gone g.rep g.seq)
           (try simp only [Ak, Aj, Ai, Ah, Ag, Af, Ae, Ad]); simp (maxSteps := 10000000) (disch := omega) only [hin, Fa, List.length_map, he2, Bq, go_sem]
           refine Aa (Es _ _ _) ?_
           (try simp only [Ak, Aj, Ai, Ah, Ag, Af, Ae, Ad]); simp (maxSteps := 10000000) (disch := omega) only [hsp, hvl, go_sem]
           refine Al (j + 1) _ _ rfl (by omega) (by omega) ?_ ?_
           · (try simp only [Ak, Aj, Ai, Ah, Ag, Af, Ae, Ad]); simp (maxSteps := 10000000) (disch := omega) only [go_sem]
           · (try simp only [Ak, Aj, Ai, Ah, Ag, Af, Ae, Ad]); simp (maxSteps := 10000000) (disch := omega) only [hB, go_sem]
         · have hgo : ¬ Jf g (Fk e) (A2 e) = true := by
            rw [hid] at hin; unfold Jf; simp [hin]
           rw [if_neg hgo] at hB
           (try simp only [Ak, Aj, Ai, Ah, Ag, Af, Ae, Ad]); simp (maxSteps := 10000000) (disch := omega) only [hin, go_sem]
           refine Al (j + 1) _ _ rfl (by omega) (by omega) ?_ ?_
           · (try simp only [Ak, Aj, Ai, Ah, Ag, Af, Ae, Ad]); simp (maxSteps := 10000000) (disch := omega) only [go_sem]
           · (try simp only [Ak, Aj, Ai, Ah, Ag, Af, Ae, Ad]); simp (maxSteps := 10000000) (disch := omega) only [hB, go_sem]
       · have g6 : ¬ g.kind = 6 := by omega
         by_cases ho : Cv g = X.obj;rotate_left
         · have hp := Gt ho;have hgo : ¬ Jf g (Fk e) (A2 e) = true := by
            rw [hob] at ho; unfold Jf; simp [ho]
           rw [if_neg hgo] at hB
           (try simp only [Ak, Aj, Ai, Ah, Ag, Af, Ae, Ad]); simp (maxSteps := 10000000) (disch := omega) only [D2, hX, List.length_map, he2, Ax, g6, hg7, Bj, Cr, Bm, Bs, hp, go_sem]
           refine Al (j + 1) _ _ rfl (by omega) (by omega) ?_ ?_
           · (try simp only [Ak, Aj, Ai, Ah, Ag, Af, Ae, Ad]); simp (maxSteps := 10000000) (disch := omega) only [go_sem]
           · (try simp only [Ak, Aj, Ai, Ah, Ag, Af, Ae, Ad]); simp (maxSteps := 10000000) (disch := omega) only [hB, go_sem]
         have hp := Gs ho;have hpv : g.gone.pv = .sl g.gone.f g.gone.z (g.gone.l.map Ga) := rfl
         (try simp only [Ak, Aj, Ai, Ah, Ag, Af, Ae, Ad]); simp (maxSteps := 10000000) (disch := omega) only [D2, hX, List.length_map, he2, Ax, g6, hg7, Bj, Cr, Bm, Bs, hp, Hv, Dv, go_sem]
         refine Aa (Py g.gone X.id hevj.1 hevj.2.2.1) ?_;by_cases hin : X.id ∈ g.gone.l
         · have hgo : Jf g (Fk e) (A2 e) = true := by
            rw [hob] at ho; rw [hid] at hin; unfold Jf; simp [hg', ho, hin]
           rw [if_pos hgo] at hB;have hsp := Hd X (Br X.gone g.rep g.seq);have hvl := Bh (Br X.gone g.rep g.seq)
           (try simp only [Ak, Aj, Ai, Ah, Ag, Af, Ae, Ad]); simp (maxSteps := 10000000) (disch := omega) only [hin, Fa, List.length_map, he2, Bq, go_sem]
           refine Aa (Es _ _ _) ?_
           (try simp only [Ak, Aj, Ai, Ah, Ag, Af, Ae, Ad]); simp (maxSteps := 10000000) (disch := omega) only [hsp, hvl, go_sem]
           refine Al (j + 1) _ _ rfl (by omega) (by omega) ?_ ?_
           · (try simp only [Ak, Aj, Ai, Ah, Ag, Af, Ae, Ad]); simp (maxSteps := 10000000) (disch := omega) only [go_sem]
           · (try simp only [Ak, Aj, Ai, Ah, Ag, Af, Ae, Ad]); simp (maxSteps := 10000000) (disch := omega) only [hB, go_sem]
         · have hgo : ¬ Jf g (Fk e) (A2 e) = true := by
            rw [hid] at hin; unfold Jf; simp [hin]
           rw [if_neg hgo] at hB
           (try simp only [Ak, Aj, Ai, Ah, Ag, Af, Ae, Ad]); simp (maxSteps := 10000000) (disch := omega) only [hin, go_sem]
           refine Al (j + 1) _ _ rfl (by omega) (by omega) ?_ ?_
           · (try simp only [Ak, Aj, Ai, Ah, Ag, Af, Ae, Ad]); simp (maxSteps := 10000000) (disch := omega) only [go_sem]
           · (try simp only [Ak, Aj, Ai, Ah, Ag, Af, Ae, Ad]); simp (maxSteps := 10000000) (disch := omega) only [hB, go_sem]
     · obtain rfl : j = l.length := by omega
       have htk : l.take l.length = l := List.take_length
       (try simp only [Ak, Aj, Ai, Ah, Ag, Af, Ae, Ad]); simp (maxSteps := 10000000) (disch := omega) only [D2, List.length_map, htk, Ge, go_sem]
       refine Aa (Abr (l := Eh l (l.take k)) (D8 l e) rfl rfl (by omega)) ?_
       (try simp only [Ak, Aj, Ai, Ah, Ag, Af, Ae, Ad]); simp (maxSteps := 10000000) (disch := omega) only [go_sem]
       refine ⟨k + 1, by omega, by omega, Eu 40 rfl (Cf 99 40 (by decide) rfl (An ?_ ?_))⟩
       · (try simp only [Ak, Aj, Ai, Ah, Ag, Af, Ae, Ad]); simp (maxSteps := 10000000) (disch := omega) only [go_sem]
       · (try simp only [Ak, Aj, Ai, Ah, Ag, Af, Ae, Ad]); simp (maxSteps := 10000000) (disch := omega) only [hsn, go_sem]
 · obtain rfl : k = l.length := by omega
   have htk : l.take l.length = l := List.take_length
   (try simp only [Ak, Aj, Ai, Ah, Ag, Af, Ae, Ad]); simp (maxSteps := 10000000) (disch := omega) only [Ze, List.length_map, htk, go_sem]
theorem A4c {x y : SV} {f g : Bool} {l : List Ver} {bs : List Ca} {v : Ver} {h d} (hx : Ct h [x, y, .vec 11 (Ba v)] = [.pv (.sl f 11 (l.map Ba)), .pv (.sl g 2 (bs.map Ga)), .vec 11 (Ba v)]) (hl : Bc [x, y, .vec 11 (Ba v)] = true)
 (hs : Fs l) (hn : l.length ≤ 900) (hbn : bs.length ≤ 900) (hm : ¬ Iq l bs) (ho : Bx l v.rep v.seq = none) :
 FunOk Tryz.prog 88 [x, y, .vec 11 (Ba v)] h d (.tup [.os d, .pv (.i .i64 0)]) [.new d (.row 11 ((M5 l bs v).map Ba))] := by
 refine Afp Aq fn88 (by simp) hl (.inr (Za _)) rfl fun F => ?_;rw [hx];exact Avw hs hn hbn (fun h => absurd h hm) (fun _ h => by rw [ho] at h; cases h) (fun _ _ g n hg => ⟨n, rfl, hg⟩)
def R9 (e : Evt) : Bool := decide (e.kind = 3 ∨ e.kind = 4 ∨ e.kind = 5)
def gvF (g : Evt) (obj id : Ca) : Bool := R9 g && (decide (Cv g = obj) && decide (id ∈ g.base.l))
def gvG (l : List Evt) (obj id : Ca) : Vc := l.foldl (fun a g => if gvF g obj id = true then Br a g.rep g.seq else a) fun _ => 0
theorem Atr (l : List Evt) (g : Evt) (obj id : Ca) : gvG (l ++ [g]) obj id = if gvF g obj id = true then Br (gvG l obj id) g.rep g.seq else gvG l obj id := by simp [gvG]
noncomputable def Nd (l m : List Evt) (e : Evt) : Ver := ⟨e.rep, e.seq, Dh l l.length (A2 e), gvG m (Cv e) (A2 e)⟩
noncomputable def D6 (l : List Evt) (obj : Ca) (m : List Evt) : List Ver := m.foldl (fun out e => if R9 e = true ∧ Cv e = obj then M5 out [] (Nd l l e) else out) []
theorem Lk (l : List Evt) (obj : Ca) (m : List Evt) (e : Evt) : D6 l obj (m ++ [e]) = if R9 e = true ∧ Cv e = obj then M5 (D6 l obj m) [] (Nd l l e) else D6 l obj m := by simp [D6]
theorem Ana {l : List Ver} {v x : Ver} : x ∈ M5 l [] v ↔ x = v ∨ x ∈ l := by
 unfold M5; rw [Sx];simp only [List.mem_append, List.mem_cons];have : x ∈ l ↔ x ∈ l.take (atL l v.rep v.seq 0).1 ∨ x ∈ l.drop (atL l v.rep v.seq 0).1 := by
  rw [← List.mem_append, List.take_append_drop]
 rw [this];constructor
 · rintro (h | h | h)
   · exact .inr (.inl h)
   · exact .inl h
   · exact .inr (.inr h)
 · rintro (h | h | h)
   · exact .inr (.inl h)
   · exact .inl h
   · exact .inr (.inr h)
theorem Aan (l : List Ver) (v : Ver) : (M5 l [] v).length = l.length + 1 := by
 unfold M5; rw [Sx];simp only [List.length_append, List.length_take, List.length_cons, List.length_drop]; omega
theorem Ac5 {l : List Ver} {v : Ver} (hs : Fs l) (hn : Bx l v.rep v.seq = none) : Fs (M5 l [] v) := by
 unfold M5; rw [Sx];have hfalse : atL l v.rep v.seq 0 = ((atL l v.rep v.seq 0).1, false) := by
  rcases h : atL l v.rep v.seq 0 with ⟨i, b⟩
  cases b with
  | false => rfl
  | true =>
    obtain ⟨_, u, _, _, h4⟩ := X6 h;rw [hn] at h4; cases h4
 obtain ⟨_, _, _, _, h5, h6⟩ := Ti hs hfalse;generalize (atL l v.rep v.seq 0).1 = p at *;simp only [Nat.sub_zero] at h5 h6;refine List.pairwise_append.2 ⟨hs.sublist (List.take_sublist _ _), List.pairwise_cons.2 ⟨fun u hu => h6 u hu, hs.sublist (List.drop_sublist _ _)⟩, fun a ha b hb => ?_⟩;rcases List.mem_cons.1 hb with rfl | hb
 · exact h5 a ha
 · have := h5 a ha;exact Xj this (h6 b hb)
theorem N8 {l : List Evt} {obj : Ca} {v : Ver} : ∀ (n : Nat) (m : List Evt), m.length = n → (v ∈ D6 l obj m ↔ ∃ e ∈ m, (R9 e = true ∧ Cv e = obj) ∧ v = Nd l l e)
 | 0, m, h => by obtain rfl := List.eq_nil_of_length_eq_zero h; simp [D6]
 | n + 1, m, h => by
   have hne : m ≠ [] := fun e => by subst e; simp at h
   have e1 := (List.dropLast_concat_getLast hne).symm;have ih := N8 (l := l) (obj := obj) (v := v) n m.dropLast (by simp [h]);rw [e1, Lk];generalize m.getLast hne = e at *;generalize m.dropLast = m' at *;split
   · rename_i hc;rw [Ana, ih];constructor
     · rintro (rfl | ⟨f, h1, h2⟩)
       · exact ⟨e, by simp, hc, rfl⟩
       · exact ⟨f, by simp [h1], h2⟩
     · rintro ⟨f, h1, h2, h3⟩;rcases List.mem_append.1 h1 with h1 | h1
       · exact .inr ⟨f, h1, h2, h3⟩
       · rw [List.mem_singleton] at h1; subst h1; exact .inl h3
   · rename_i hc;rw [ih];constructor
     · rintro ⟨f, h1, h2⟩; exact ⟨f, by simp [h1], h2⟩
     · rintro ⟨f, h1, h2, h3⟩;rcases List.mem_append.1 h1 with h1 | h1
       · exact ⟨f, h1, h2, h3⟩
       · rw [List.mem_singleton] at h1; subst h1; exact absurd h2 hc
def NodE (l : List Evt) : Prop := (l.map A2).Nodup
theorem Y9 {l m : List Evt} {obj : Ca} {e : Evt} (hn : NodE (m ++ [e])) : Bx (D6 l obj m) e.rep e.seq = none := by
 rw [Aix];intro v hv ⟨h1, h2⟩;obtain ⟨f, hf, _, rfl⟩ := (N8 m.length m rfl).1 hv;have : A2 f = A2 e := Prod.ext h1 h2;unfold NodE at hn;rw [List.map_append, List.nodup_append] at hn;exact hn.2.2 (A2 f) (List.mem_map_of_mem hf) (A2 e) (by simp) this
theorem NodE.take {l : List Evt} (h : NodE l) (k : Nat) : NodE (l.take k) := by
 unfold NodE at *; rw [List.map_take]; exact h.sublist (List.take_sublist _ _)
theorem Im {l : List Evt} {obj : Ca} : ∀ (n : Nat) (m : List Evt), m.length = n → NodE m → Fs (D6 l obj m) ∧ (D6 l obj m).length ≤ n
 | 0, m, h, _ => by obtain rfl := List.eq_nil_of_length_eq_zero h; exact ⟨List.Pairwise.nil, by simp [D6]⟩
 | n + 1, m, h, hn => by
   have hne : m ≠ [] := fun e => by subst e; simp at h
   have e1 := (List.dropLast_concat_getLast hne).symm;have hn' : NodE m.dropLast := by unfold NodE at *; rw [List.map_dropLast]; exact hn.sublist (List.dropLast_sublist _)
   obtain ⟨h1, h2⟩ := Im (l := l) (obj := obj) n m.dropLast (by simp [h]) hn';rw [e1] at hn ⊢;rw [Lk];split
   · exact ⟨Ac5 h1 (Y9 hn), by rw [Aan]; omega⟩
   · exact ⟨h1, by omega⟩
theorem Ax5 {l : List Ver} {v : Ver} (hs : Fs l) (hn : l.length ≤ 900) (ho : Bx l v.rep v.seq = none) {h d} (hh : h 40 = some (.row 11 (l.map Ba))) :
 FunOk Tryz.prog 88 [.os 40, .pv (.sl true 0 []), .vec 11 (Ba v)] h d (.tup [.os d, .pv (.i .i64 0)]) [.new d (.row 11 ((M5 l [] v).map Ba))] := by
 refine FunOk.imp (args' := [.os 40, .pv (.sl true 2 []), .vec 11 (Ba v)]) ?_ ⟨Imp.refl _, Ach (Lz id (.inl rfl) (.refl _)), Imp.refl _, trivial⟩ (by simp [Bd, tn]);exact A4c (f := false) (g := true) (l := l) (bs := []) (by simp only [Ct, Ir, hh]; rfl) rfl hs hn (by simp) (fun ⟨b, hb, _⟩ => by simp at hb) ho
structure EvsOk (l : List Evt) (rk : Evt → Nat) : Prop where
 len : l.length ≤ 400
 nod : NodE l
 ev : ∀ e ∈ l, ev e ∧ e.data.length ≤ 1000
 grd : Grd l rk
 rk : ∀ e ∈ l, rk e < l.length
noncomputable def Aqf (f : Bool) (l : List Evt) (o : Ca) (k : Nat) : FS := mk [(6, .pv (.i .i64 k)), (5, .os 40), (0, .pv (.sl f 21 (l.map Cn))), (3, .p 3 0)] [(3, some (.var (.vec 2 [.i .i64 o.1, .i .u32 o.2]))), (40, some (.row 11 ((D6 l o (l.take k)).map Ba)))]
noncomputable def Adp (f : Bool) (l : List Evt) (o : Ca) (k : Nat) (e : Evt) (j : Nat) : FS := mk [(8, .pv (.i .i64 j)), (6, .pv (.i .i64 k)), (5, .os 40), (7, .p 7 0), (0, .pv (.sl f 21 (l.map Cn))), (3, .p 3 0)] [(7, some (.var (.vec 11 (Ba (Nd l (l.take j) e))))), (3, some (.var (.vec 2 [.i .i64 o.1, .i .u32 o.2]))), (40, some (.row 11 ((D6 l o (l.take k)).map Ba)))]
theorem Apy (r : Int) (q : Nat) (s : List UInt8) (g : Vc) : Imp (.agg [.vec 2 [.i .i64 r, .i .u32 q], .pv (.s s), .vec 8 (vE g)]) (.vec 11 (Ba ⟨r, q, s, g⟩)) := Mh (by rfl) (Gp _)
set_option maxHeartbeats 8000000 in
theorem Wt {x : SV} {f : Bool} {l : List Evt} {rk : Evt → Nat} (o : Ca) {h d} (hx : Ct h [x, .vec 2 [.i .i64 o.1, .i .u32 o.2]] = [.pv (.sl f 21 (l.map Cn)), .vec 2 [.i .i64 o.1, .i .u32 o.2]]) (hl : Bc [x, .vec 2 [.i .i64 o.1, .i .u32 o.2]] = true) (hE : EvsOk l rk) : FunOk Tryz.prog 48 [x, .vec 2 [.i .i64 o.1, .i .u32 o.2]] h d (.pv (.sl false 11 ((D6 l o l).map Ba))) [] := by
 refine Iy Aq fn48 (by simp) hl (Za _) fun F => ?_;rw [hx];have hn := hE.len
 (try simp only [Ak, Aj, Ai, Ah, Ag, Af, Ae, Ad]); simp (maxSteps := 10000000) (disch := omega) only [ir48, go_sem]
 refine A1 Aq (Aqf f l o) (fun k => k ≤ l.length) (fun k => l.length - k) 0 (by simp) (Na 5 40 11 rfl (by omega) (An ?_ ?_)) fun k hk => ?_
 · (try simp only [Ak, Aj, Ai, Ah, Ag, Af, Ae, Ad]); simp (maxSteps := 10000000) (disch := omega) only [go_sem]
 · (try simp only [Ak, Aj, Ai, Ah, Ag, Af, Ae, Ad]); simp (maxSteps := 10000000) (disch := omega) only [D6, List.take_zero, List.foldl_nil, List.map_nil, go_sem]
 by_cases hlt : k < l.length
 · have hx : l[k]? = some l[k] := List.getElem?_eq_getElem hlt;have he : (l.map Cn)[k]? = some (Cn l[k]) := by rw [List.getElem?_map, hx]; rfl
   have ht := Dt hx;have hsn := Lk l o (l.take k) l[k];have hnd := hE.nod.take (k + 1);rw [ht] at hnd;rw [← ht] at hsn;have hmem := List.getElem_mem hlt;generalize l[k] = e at *;obtain ⟨hso, hle⟩ := Im (l := l) (obj := o) _ (l.take k) rfl (hE.nod.take k);have hle' : (l.take k).length ≤ 400 := by simp; omega
   have hnew := Y9 (l := l) (obj := o) hnd;have hwb : R9 e = decide (e.kind = 3 ∨ e.kind = 4 ∨ e.kind = 5) := rfl;by_cases hw : R9 e = true;rotate_left
   · rw [if_neg (fun q => hw q.1)] at hsn;have hw' : R9 e = false := by simpa using hw
     (try simp only [Ak, Aj, Ai, Ah, Ag, Af, Ae, Ad]); simp (maxSteps := 10000000) (disch := omega) only [Aqf, List.length_map, he, Dm, go_sem]
     refine Aa (Kt e) ?_;rw [← hwb, hw']
     (try simp only [Ak, Aj, Ai, Ah, Ag, Af, Ae, Ad]); simp (maxSteps := 10000000) (disch := omega) only [go_sem]
     refine Al (k + 1) _ _ rfl (by omega) (by omega) ?_ ?_
     · (try simp only [Ak, Aj, Ai, Ah, Ag, Af, Ae, Ad]); simp (maxSteps := 10000000) (disch := omega) only [go_sem]
     · (try simp only [Ak, Aj, Ai, Ah, Ag, Af, Ae, Ad]); simp (maxSteps := 10000000) (disch := omega) only [hsn, go_sem]
   by_cases ho : Cv e = o;rotate_left
   · rw [if_neg (fun q => ho q.2)] at hsn;have hp := Gt ho
     (try simp only [Ak, Aj, Ai, Ah, Ag, Af, Ae, Ad]); simp (maxSteps := 10000000) (disch := omega) only [Aqf, List.length_map, he, Dm, go_sem]
     refine Aa (Kt e) ?_;rw [← hwb, hw]
     (try simp only [Ak, Aj, Ai, Ah, Ag, Af, Ae, Ad]); simp (maxSteps := 10000000) (disch := omega) only [he, Bj, Bm, Bs, hp, List.length_map, go_sem]
     refine Al (k + 1) _ _ rfl (by omega) (by omega) ?_ ?_
     · (try simp only [Ak, Aj, Ai, Ah, Ag, Af, Ae, Ad]); simp (maxSteps := 10000000) (disch := omega) only [go_sem]
     · (try simp only [Ak, Aj, Ai, Ah, Ag, Af, Ae, Ad]); simp (maxSteps := 10000000) (disch := omega) only [hsn, go_sem]
   rw [if_pos ⟨hw, ho⟩] at hsn;have hp := Gs ho
   (try simp only [Ak, Aj, Ai, Ah, Ag, Af, Ae, Ad]); simp (maxSteps := 10000000) (disch := omega) only [Aqf, List.length_map, he, Dm, go_sem]
   refine Aa (Kt e) ?_;rw [← hwb, hw]
   (try simp only [Ak, Aj, Ai, Ah, Ag, Af, Ae, Ad]); simp (maxSteps := 10000000) (disch := omega) only [he, Bj, Bm, Bs, hp, List.length_map, Bq, go_sem]
   refine Aa (Aet (rk := rk) hE.grd (by omega) hE.ev l.length (A2 e) (fun e' he' => hE.rk e' (List.mem_of_find?_eq_some he')) _ f _ _ rfl rfl) ?_
   (try simp only [Ak, Aj, Ai, Ah, Ag, Af, Ae, Ad]); simp (maxSteps := 10000000) (disch := omega) only [go_sem]
   refine A1 Aq (Adp f l o k e) (fun j => j ≤ l.length) (fun j => l.length - j) 0 (by simp) (An ?_ ?_) fun j hj => ?_
   · (try simp only [Ak, Aj, Ai, Ah, Ag, Af, Ae, Ad]); simp (maxSteps := 10000000) (disch := omega) only [go_sem]
   · (try simp only [Ak, Aj, Ai, Ah, Ag, Af, Ae, Ad]); simp (maxSteps := 10000000) (disch := omega) only [Nd, gvG, List.take_zero, List.foldl_nil, go_sem]
     exact Apy _ _ _ _
   by_cases hjl : j < l.length
   · have hx2 : l[j]? = some l[j] := List.getElem?_eq_getElem hjl;have he2 : (l.map Cn)[j]? = some (Cn l[j]) := by rw [List.getElem?_map, hx2]; rfl
     have ht2 := Dt hx2;have hevj := (hE.ev _ (List.getElem_mem hjl)).1;generalize l[j] = g at *;have hB : Nd l (l.take (j + 1)) e = if gvF g (Cv e) (A2 e) = true then { Nd l (l.take j) e with gone := Br (Nd l (l.take j) e).gone g.rep g.seq } else Nd l (l.take j) e := by
      unfold Nd; rw [ht2, Atr]; split <;> rfl
     have hid : ((Nd l (l.take j) e).rep, (Nd l (l.take j) e).seq) = A2 e := rfl;generalize hX : Nd l (l.take j) e = X at *;have hwg : R9 g = decide (g.kind = 3 ∨ g.kind = 4 ∨ g.kind = 5) := rfl;by_cases hg : R9 g = true;rotate_left
     · have hgo : ¬ gvF g (Cv e) (A2 e) = true := by unfold gvF; simp [hg]
       have hg' : R9 g = false := by simpa using hg
       rw [if_neg hgo] at hB
       (try simp only [Ak, Aj, Ai, Ah, Ag, Af, Ae, Ad]); simp (maxSteps := 10000000) (disch := omega) only [Adp, hX, List.length_map, he2, Dm, go_sem]
       refine Aa (Kt g) ?_;rw [← hwg, hg']
       (try simp only [Ak, Aj, Ai, Ah, Ag, Af, Ae, Ad]); simp (maxSteps := 10000000) (disch := omega) only [go_sem]
       refine Al (j + 1) _ _ rfl (by omega) (by omega) ?_ ?_
       · (try simp only [Ak, Aj, Ai, Ah, Ag, Af, Ae, Ad]); simp (maxSteps := 10000000) (disch := omega) only [go_sem]
       · (try simp only [Ak, Aj, Ai, Ah, Ag, Af, Ae, Ad]); simp (maxSteps := 10000000) (disch := omega) only [hB, go_sem]
     by_cases hog : Cv g = o;rotate_left
     · have hp2 := Gt hog;have hgo : ¬ gvF g (Cv e) (A2 e) = true := by rw [← ho] at hog; unfold gvF; simp [hog]
       rw [if_neg hgo] at hB
       (try simp only [Ak, Aj, Ai, Ah, Ag, Af, Ae, Ad]); simp (maxSteps := 10000000) (disch := omega) only [Adp, hX, List.length_map, he2, Dm, go_sem]
       refine Aa (Kt g) ?_;rw [← hwg, hg]
       (try simp only [Ak, Aj, Ai, Ah, Ag, Af, Ae, Ad]); simp (maxSteps := 10000000) (disch := omega) only [List.length_map, he2, Bj, Bm, Bs, hp2, go_sem]
       refine Al (j + 1) _ _ rfl (by omega) (by omega) ?_ ?_
       · (try simp only [Ak, Aj, Ai, Ah, Ag, Af, Ae, Ad]); simp (maxSteps := 10000000) (disch := omega) only [go_sem]
       · (try simp only [Ak, Aj, Ai, Ah, Ag, Af, Ae, Ad]); simp (maxSteps := 10000000) (disch := omega) only [hB, go_sem]
     have hp2 := Gs hog;have hpv : g.base.pv = .sl g.base.f g.base.z (g.base.l.map Ga) := rfl
     (try simp only [Ak, Aj, Ai, Ah, Ag, Af, Ae, Ad]); simp (maxSteps := 10000000) (disch := omega) only [Adp, hX, List.length_map, he2, Dm, go_sem]
     refine Aa (Kt g) ?_;rw [← hwg, hg]
     (try simp only [Ak, Aj, Ai, Ah, Ag, Af, Ae, Ad]); simp (maxSteps := 10000000) (disch := omega) only [List.length_map, he2, Bj, Bm, Bs, hp2, J1, Co, go_sem]
     refine Aa (Py g.base (X.rep, X.seq) hevj.2.1 hevj.2.2.2.1) ?_;by_cases hin : (X.rep, X.seq) ∈ g.base.l
     · have hgo : gvF g (Cv e) (A2 e) = true := by
        rw [hid] at hin; unfold gvF; simp [hg, hog, ho, hin]
       rw [if_pos hgo] at hB;have hsp := Lp X (Br X.gone g.rep g.seq);have hvl := Bh (Br X.gone g.rep g.seq)
       (try simp only [Ak, Aj, Ai, Ah, Ag, Af, Ae, Ad]); simp (maxSteps := 10000000) (disch := omega) only [hin, K3, List.length_map, he2, Bq, go_sem]
       refine Aa (Es _ _ _) ?_
       (try simp only [Ak, Aj, Ai, Ah, Ag, Af, Ae, Ad]); simp (maxSteps := 10000000) (disch := omega) only [hsp, hvl, go_sem]
       refine Al (j + 1) _ _ rfl (by omega) (by omega) ?_ ?_
       · (try simp only [Ak, Aj, Ai, Ah, Ag, Af, Ae, Ad]); simp (maxSteps := 10000000) (disch := omega) only [go_sem]
       · (try simp only [Ak, Aj, Ai, Ah, Ag, Af, Ae, Ad]); simp (maxSteps := 10000000) (disch := omega) only [hB, go_sem]
     · have hgo : ¬ gvF g (Cv e) (A2 e) = true := by
        rw [hid] at hin; unfold gvF; simp [hin]
       rw [if_neg hgo] at hB
       (try simp only [Ak, Aj, Ai, Ah, Ag, Af, Ae, Ad]); simp (maxSteps := 10000000) (disch := omega) only [hin, go_sem]
       refine Al (j + 1) _ _ rfl (by omega) (by omega) ?_ ?_
       · (try simp only [Ak, Aj, Ai, Ah, Ag, Af, Ae, Ad]); simp (maxSteps := 10000000) (disch := omega) only [go_sem]
       · (try simp only [Ak, Aj, Ai, Ah, Ag, Af, Ae, Ad]); simp (maxSteps := 10000000) (disch := omega) only [hB, go_sem]
   · obtain rfl : j = l.length := by omega
     have htk : l.take l.length = l := List.take_length
     (try simp only [Ak, Aj, Ai, Ah, Ag, Af, Ae, Ad]); simp (maxSteps := 10000000) (disch := omega) only [Adp, List.length_map, htk, Ib, go_sem]
     refine Aa (Ax5 (l := D6 l o (l.take k)) (v := Nd l l e) hso (by omega) hnew rfl) ?_
     (try simp only [Ak, Aj, Ai, Ah, Ag, Af, Ae, Ad]); simp (maxSteps := 10000000) (disch := omega) only [go_sem]
     refine ⟨k + 1, by omega, by omega, Eu 40 rfl (Cf 85 40 (by decide) rfl (An ?_ ?_))⟩
     · (try simp only [Ak, Aj, Ai, Ah, Ag, Af, Ae, Ad]); simp (maxSteps := 10000000) (disch := omega) only [go_sem]
     · (try simp only [Ak, Aj, Ai, Ah, Ag, Af, Ae, Ad]); simp (maxSteps := 10000000) (disch := omega) only [hsn, go_sem]
 · obtain rfl : k = l.length := by omega
   have htk : l.take l.length = l := List.take_length
   (try simp only [Ak, Aj, Ai, Ah, Ag, Af, Ae, Ad]); simp (maxSteps := 10000000) (disch := omega) only [Aqf, List.length_map, htk, go_sem]
def E2 (e : Evt) (o : Obj) (f : Evt) : Obj :=
 if Cv f = A2 e then
  if f.kind = 7 then (if C8 o.last.1 o.last.2 f.rep f.seq = true then { o with last := A2 f, name := f.name } else o)
  else if f.kind = 6 then { o with seen := Ei o.seen (Br f.dep f.rep f.seq) } else o
 else o
noncomputable def Ey (l m : List Evt) (e : Evt) : Obj := m.foldl (E2 e) ⟨A2 e, decide (e.kind = 2), A2 e, e.name, fun _ => 0, D6 l (A2 e) l⟩
theorem Sw (l m : List Evt) (e f : Evt) : Ey l (m ++ [f]) e = E2 e (Ey l m e) f := by simp [Ey]
def Ft : SV := .agg [.pv (.i .i64 0), .pv (.i .u32 0), .pv (.b false), .pv (.i .i64 0), .pv (.i .u32 0), .pv (.s []), .vec 8 (vE fun _ => 0), .pv (.sl true 0 [])]
theorem Abw (o : Obj) : Imp (.agg [.vec 2 [.i .i64 o.id.1, .i .u32 o.id.2], .pv (.b o.dir), .vec 2 [.i .i64 o.last.1, .i .u32 o.last.2], .pv (.s o.name), .vec 8 (vE o.seen), .pv (.sl false 11 (o.vers.map Ba))]) (.vec 15 (A6 o)) := Mh (by rfl) (C5 _)
noncomputable def V6 (f : Bool) (l : List Evt) (e : Evt) (k : Nat) : FS := mk [(6, .pv (.i .i64 k)), (0, .pv (.sl f 21 (l.map Cn))), (3, .p 3 0), (4, .p 4 0), (5, .p 5 0)] [(3, some (.var (.vec 21 (Cn e)))), (4, some (.var Ft)), (5, some (.var (.vec 15 (A6 (Ey l (l.take k) e)))))]
noncomputable def V5 (f : Bool) (l : List Evt) (e : Evt) (k : Nat) : FS := mk [(6, .pv (.i .i64 k)), (0, .os 900), (3, .p 3 0), (4, .p 4 0), (5, .p 5 0), (1000000, .os 900)] [(3, some (.var (.vec 21 (Cn e)))), (4, some (.var Ft)), (5, some (.var (.vec 15 (A6 (Ey l (l.take k) e))))), (900, some (.row 21 (l.map Cn)))]
set_option maxHeartbeats 8000000 in
theorem Zr {f : Bool} {l : List Evt} {rk : Evt → Nat} (e : Evt) {h d} (hE : EvsOk l rk) : FunOk Tryz.prog 16 [.pv (.sl f 21 (l.map Cn)), .vec 21 (Cn e)] h d (.vec 15 (A6 (Ey l l e))) [] := by
 refine A7 Aq fn16 (by simp) rfl rfl fun F => ?_;have hn := hE.len
 (try simp only [Ak, Aj, Ai, Ah, Ag, Af, Ae, Ad]); simp (maxSteps := 10000000) (disch := omega) only [ir16, Bq, Ax, Fo, Blk.ptr, go_sem]
 refine Aa (Wt (rk := rk) (l := l) (A2 e) rfl rfl hE) ?_
 (try simp only [Ak, Aj, Ai, Ah, Ag, Af, Ae, Ad]); simp (maxSteps := 10000000) (disch := omega) only [go_sem]
 refine A1 Aq (V6 f l e) (fun k => k ≤ l.length) (fun k => l.length - k) 0 (by simp) (An ?_ ?_) fun k hk => ?_
 · (try simp only [Ak, Aj, Ai, Ah, Ag, Af, Ae, Ad]); simp (maxSteps := 10000000) (disch := omega) only [go_sem]
 · (try simp only [Ak, Aj, Ai, Ah, Ag, Af, Ae, Ad]); simp (maxSteps := 10000000) (disch := omega) only [Ey, List.take_zero, List.foldl_nil, Ft, go_sem]
   exact Abw ⟨A2 e, decide (e.kind = 2), A2 e, e.name, fun _ => 0, D6 l (A2 e) l⟩
 by_cases hlt : k < l.length
 · have hx : l[k]? = some l[k] := List.getElem?_eq_getElem hlt;have he : (l.map Cn)[k]? = some (Cn l[k]) := by rw [List.getElem?_map, hx]; rfl
   have ht := Dt hx;have hsn := Sw l (l.take k) e l[k];rw [← ht] at hsn;generalize l[k] = g at *;generalize hX : Ey l (l.take k) e = X at *;by_cases ho : Cv g = A2 e;rotate_left
   · have hp := Gt ho;have hs : E2 e X g = X := if_neg ho;rw [hs] at hsn
     (try simp only [Ak, Aj, Ai, Ah, Ag, Af, Ae, Ad]); simp (maxSteps := 10000000) (disch := omega) only [V6, hX, List.length_map, he, Bj, Bq, Bm, Bs, hp, go_sem]
     refine Al (k + 1) _ _ rfl (by omega) (by omega) ?_ ?_
     · (try simp only [Ak, Aj, Ai, Ah, Ag, Af, Ae, Ad]); simp (maxSteps := 10000000) (disch := omega) only [go_sem]
     · (try simp only [Ak, Aj, Ai, Ah, Ag, Af, Ae, Ad]); simp (maxSteps := 10000000) (disch := omega) only [hsn, Ft, go_sem]
   have hp := Gs ho;by_cases h7 : g.kind = 7
   · by_cases hl7 : C8 X.last.1 X.last.2 g.rep g.seq = true
     · have hs : E2 e X g = { X with last := A2 g, name := g.name } := by unfold E2; rw [if_pos ho, if_pos h7, if_pos hl7]
       rw [hs] at hsn;have hsp := Adw X (A2 g);have hsp2 := Adv { X with last := A2 g } g.name
       (try simp only [Ak, Aj, Ai, Ah, Ag, Af, Ae, Ad]); simp (maxSteps := 10000000) (disch := omega) only [V6, hX, List.length_map, he, Bj, Bq, Bm, Bs, hp, Ax, h7, Cp, go_sem]
       refine Aa (Fj X.last.1 X.last.2 g.rep g.seq) ?_
       (try simp only [Ak, Aj, Ai, Ah, Ag, Af, Ae, Ad]); simp (maxSteps := 10000000) (disch := omega) only [hl7, go_sem]
       refine R4 ?_
       (try simp only [Ak, Aj, Ai, Ah, Ag, Af, Ae, Ad]); simp (maxSteps := 10000000) (disch := omega) only [List.length_map, he, Bq, Fo, hsp, hsp2, Ax, h7, go_sem]
       refine Al (k + 1) _ _ rfl (by omega) (by omega) ?_ ?_
       · (try simp only [Ak, Aj, Ai, Ah, Ag, Af, Ae, Ad]); simp (maxSteps := 10000000) (disch := omega) only [go_sem]
       · (try simp only [Ak, Aj, Ai, Ah, Ag, Af, Ae, Ad]); simp (maxSteps := 10000000) (disch := omega) only [hsn, Ft, go_sem]
     · have hs : E2 e X g = X := by unfold E2; rw [if_pos ho, if_pos h7, if_neg hl7]
       rw [hs] at hsn;have hl7' : C8 X.last.1 X.last.2 g.rep g.seq = false := by simpa using hl7
       (try simp only [Ak, Aj, Ai, Ah, Ag, Af, Ae, Ad]); simp (maxSteps := 10000000) (disch := omega) only [V6, hX, List.length_map, he, Bj, Bq, Bm, Bs, hp, Ax, h7, Cp, go_sem]
       refine Aa (Fj X.last.1 X.last.2 g.rep g.seq) ?_
       (try simp only [Ak, Aj, Ai, Ah, Ag, Af, Ae, Ad]); simp (maxSteps := 10000000) (disch := omega) only [hl7', List.length_map, he, Ax, h7, go_sem]
       refine Al (k + 1) _ _ rfl (by omega) (by omega) ?_ ?_
       · (try simp only [Ak, Aj, Ai, Ah, Ag, Af, Ae, Ad]); simp (maxSteps := 10000000) (disch := omega) only [go_sem]
       · (try simp only [Ak, Aj, Ai, Ah, Ag, Af, Ae, Ad]); simp (maxSteps := 10000000) (disch := omega) only [hsn, Ft, go_sem]
   by_cases h6 : g.kind = 6
   · have hs : E2 e X g = { X with seen := Ei X.seen (Br g.dep g.rep g.seq) } := by unfold E2; rw [if_pos ho, if_neg h7, if_pos h6]
     rw [hs] at hsn;have hsp := Adu X (Ei X.seen (Br g.dep g.rep g.seq));have hvl := Bh (Ei X.seen (Br g.dep g.rep g.seq))
     (try simp only [Ak, Aj, Ai, Ah, Ag, Af, Ae, Ad]); simp (maxSteps := 10000000) (disch := omega) only [V6, hX, List.length_map, he, Bj, Bq, Bm, Bs, hp, Ax, h7, h6, Df, Jb, go_sem]
     refine Aa (Es _ _ _) ?_
     (try simp only [Ak, Aj, Ai, Ah, Ag, Af, Ae, Ad]); simp (maxSteps := 10000000) (disch := omega) only [go_sem]
     refine Aa (U3 _ _) ?_
     (try simp only [Ak, Aj, Ai, Ah, Ag, Af, Ae, Ad]); simp (maxSteps := 10000000) (disch := omega) only [hsp, hvl, go_sem]
     refine Al (k + 1) _ _ rfl (by omega) (by omega) ?_ ?_
     · (try simp only [Ak, Aj, Ai, Ah, Ag, Af, Ae, Ad]); simp (maxSteps := 10000000) (disch := omega) only [go_sem]
     · (try simp only [Ak, Aj, Ai, Ah, Ag, Af, Ae, Ad]); simp (maxSteps := 10000000) (disch := omega) only [hsn, Ft, go_sem]
   · have hs : E2 e X g = X := by unfold E2; rw [if_pos ho, if_neg h7, if_neg h6]
     rw [hs] at hsn
     (try simp only [Ak, Aj, Ai, Ah, Ag, Af, Ae, Ad]); simp (maxSteps := 10000000) (disch := omega) only [V6, hX, List.length_map, he, Bj, Bq, Bm, Bs, hp, Ax, h7, h6, go_sem]
     refine Al (k + 1) _ _ rfl (by omega) (by omega) ?_ ?_
     · (try simp only [Ak, Aj, Ai, Ah, Ag, Af, Ae, Ad]); simp (maxSteps := 10000000) (disch := omega) only [go_sem]
     · (try simp only [Ak, Aj, Ai, Ah, Ag, Af, Ae, Ad]); simp (maxSteps := 10000000) (disch := omega) only [hsn, Ft, go_sem]
 obtain rfl : k = l.length := by omega
 have htk : l.take l.length = l := List.take_length;have hol := C5 (Ey l l e)
 (try simp only [Ak, Aj, Ai, Ah, Ag, Af, Ae, Ad]); simp (maxSteps := 10000000) (disch := omega) only [V6, Ft, List.length_map, htk, D4, hol, go_sem]
set_option maxHeartbeats 8000000 in
theorem Ah2 {l : List Evt} {rk : Evt → Nat} (e : Evt) {h d} (hE : EvsOk l rk) (hg : h 900 = some (.row 21 (l.map Cn))) : FunOk Tryz.prog 16 [.os 900, .vec 21 (Cn e)] h d (.vec 15 (A6 (Ey l l e))) [.upd 900 (.row 21 (l.map Cn))] := by
 refine Ro (g := 900) Aq fn16 (by simp) (by simp [Bd, tn]) (by simp [Bd, tn]) hg rfl (by simp [Blk.ptr, SV.kill]) rfl (fun _ => rfl) fun F => ?_;obtain ⟨f, hf⟩ : ∃ f : Bool, f = false := ⟨_, rfl⟩
 have hn := hE.len
 (try simp only [Ak, Aj, Ai, Ah, Ag, Af, Ae, Ad]); simp (maxSteps := 10000000) (disch := omega) only [ir16, Bq, Ax, Fo, Blk.ptr, go_sem]
 refine Aa (Wt (rk := rk) (l := l) (A2 e) rfl rfl hE) ?_
 (try simp only [Ak, Aj, Ai, Ah, Ag, Af, Ae, Ad]); simp (maxSteps := 10000000) (disch := omega) only [go_sem]
 refine A1 Aq (V5 f l e) (fun k => k ≤ l.length) (fun k => l.length - k) 0 (by simp) (An ?_ ?_) fun k hk => ?_
 · (try simp only [Ak, Aj, Ai, Ah, Ag, Af, Ae, Ad]); simp (maxSteps := 10000000) (disch := omega) only [go_sem]
 · (try simp only [Ak, Aj, Ai, Ah, Ag, Af, Ae, Ad]); simp (maxSteps := 10000000) (disch := omega) only [Ey, List.take_zero, List.foldl_nil, Ft, go_sem]
   exact Abw ⟨A2 e, decide (e.kind = 2), A2 e, e.name, fun _ => 0, D6 l (A2 e) l⟩
 by_cases hlt : k < l.length
 · have hx : l[k]? = some l[k] := List.getElem?_eq_getElem hlt;have he : (l.map Cn)[k]? = some (Cn l[k]) := by rw [List.getElem?_map, hx]; rfl
   have ht := Dt hx;have hsn := Sw l (l.take k) e l[k];rw [← ht] at hsn;generalize l[k] = g at *;generalize hX : Ey l (l.take k) e = X at *;by_cases ho : Cv g = A2 e;rotate_left
   · have hp := Gt ho;have hs : E2 e X g = X := if_neg ho;rw [hs] at hsn
     (try simp only [Ak, Aj, Ai, Ah, Ag, Af, Ae, Ad]); simp (maxSteps := 10000000) (disch := omega) only [V5, hX, List.length_map, he, Bj, Bq, Bm, Bs, hp, go_sem]
     refine Al (k + 1) _ _ rfl (by omega) (by omega) ?_ ?_
     · (try simp only [Ak, Aj, Ai, Ah, Ag, Af, Ae, Ad]); simp (maxSteps := 10000000) (disch := omega) only [go_sem]
     · (try simp only [Ak, Aj, Ai, Ah, Ag, Af, Ae, Ad]); simp (maxSteps := 10000000) (disch := omega) only [hsn, Ft, go_sem]
   have hp := Gs ho;by_cases h7 : g.kind = 7
   · by_cases hl7 : C8 X.last.1 X.last.2 g.rep g.seq = true
     · have hs : E2 e X g = { X with last := A2 g, name := g.name } := by unfold E2; rw [if_pos ho, if_pos h7, if_pos hl7]
       rw [hs] at hsn;have hsp := Adw X (A2 g);have hsp2 := Adv { X with last := A2 g } g.name
       (try simp only [Ak, Aj, Ai, Ah, Ag, Af, Ae, Ad]); simp (maxSteps := 10000000) (disch := omega) only [V5, hX, List.length_map, he, Bj, Bq, Bm, Bs, hp, Ax, h7, Cp, go_sem]
       refine Aa (Fj X.last.1 X.last.2 g.rep g.seq) ?_
       (try simp only [Ak, Aj, Ai, Ah, Ag, Af, Ae, Ad]); simp (maxSteps := 10000000) (disch := omega) only [hl7, go_sem]
       refine R4 ?_
       (try simp only [Ak, Aj, Ai, Ah, Ag, Af, Ae, Ad]); simp (maxSteps := 10000000) (disch := omega) only [List.length_map, he, Bq, Fo, hsp, hsp2, Ax, h7, go_sem]
       refine Al (k + 1) _ _ rfl (by omega) (by omega) ?_ ?_
       · (try simp only [Ak, Aj, Ai, Ah, Ag, Af, Ae, Ad]); simp (maxSteps := 10000000) (disch := omega) only [go_sem]
       · (try simp only [Ak, Aj, Ai, Ah, Ag, Af, Ae, Ad]); simp (maxSteps := 10000000) (disch := omega) only [hsn, Ft, go_sem]
     · have hs : E2 e X g = X := by unfold E2; rw [if_pos ho, if_pos h7, if_neg hl7]
       rw [hs] at hsn;have hl7' : C8 X.last.1 X.last.2 g.rep g.seq = false := by simpa using hl7
       (try simp only [Ak, Aj, Ai, Ah, Ag, Af, Ae, Ad]); simp (maxSteps := 10000000) (disch := omega) only [V5, hX, List.length_map, he, Bj, Bq, Bm, Bs, hp, Ax, h7, Cp, go_sem]
       refine Aa (Fj X.last.1 X.last.2 g.rep g.seq) ?_
       (try simp only [Ak, Aj, Ai, Ah, Ag, Af, Ae, Ad]); simp (maxSteps := 10000000) (disch := omega) only [hl7', List.length_map, he, Ax, h7, go_sem]
       refine Al (k + 1) _ _ rfl (by omega) (by omega) ?_ ?_
       · (try simp only [Ak, Aj, Ai, Ah, Ag, Af, Ae, Ad]); simp (maxSteps := 10000000) (disch := omega) only [go_sem]
       · (try simp only [Ak, Aj, Ai, Ah, Ag, Af, Ae, Ad]); simp (maxSteps := 10000000) (disch := omega) only [hsn, Ft, go_sem]
   by_cases h6 : g.kind = 6
   · have hs : E2 e X g = { X with seen := Ei X.seen (Br g.dep g.rep g.seq) } := by unfold E2; rw [if_pos ho, if_neg h7, if_pos h6]
     rw [hs] at hsn;have hsp := Adu X (Ei X.seen (Br g.dep g.rep g.seq));have hvl := Bh (Ei X.seen (Br g.dep g.rep g.seq))
     (try simp only [Ak, Aj, Ai, Ah, Ag, Af, Ae, Ad]); simp (maxSteps := 10000000) (disch := omega) only [V5, hX, List.length_map, he, Bj, Bq, Bm, Bs, hp, Ax, h7, h6, Df, Jb, go_sem]
     refine Aa (Es _ _ _) ?_
     (try simp only [Ak, Aj, Ai, Ah, Ag, Af, Ae, Ad]); simp (maxSteps := 10000000) (disch := omega) only [go_sem]
     refine Aa (U3 _ _) ?_
     (try simp only [Ak, Aj, Ai, Ah, Ag, Af, Ae, Ad]); simp (maxSteps := 10000000) (disch := omega) only [hsp, hvl, go_sem]
     refine Al (k + 1) _ _ rfl (by omega) (by omega) ?_ ?_
     · (try simp only [Ak, Aj, Ai, Ah, Ag, Af, Ae, Ad]); simp (maxSteps := 10000000) (disch := omega) only [go_sem]
     · (try simp only [Ak, Aj, Ai, Ah, Ag, Af, Ae, Ad]); simp (maxSteps := 10000000) (disch := omega) only [hsn, Ft, go_sem]
   · have hs : E2 e X g = X := by unfold E2; rw [if_pos ho, if_neg h7, if_neg h6]
     rw [hs] at hsn
     (try simp only [Ak, Aj, Ai, Ah, Ag, Af, Ae, Ad]); simp (maxSteps := 10000000) (disch := omega) only [V5, hX, List.length_map, he, Bj, Bq, Bm, Bs, hp, Ax, h7, h6, go_sem]
     refine Al (k + 1) _ _ rfl (by omega) (by omega) ?_ ?_
     · (try simp only [Ak, Aj, Ai, Ah, Ag, Af, Ae, Ad]); simp (maxSteps := 10000000) (disch := omega) only [go_sem]
     · (try simp only [Ak, Aj, Ai, Ah, Ag, Af, Ae, Ad]); simp (maxSteps := 10000000) (disch := omega) only [hsn, Ft, go_sem]
 obtain rfl : k = l.length := by omega
 have htk : l.take l.length = l := List.take_length;have hol := C5 (Ey l l e)
 (try simp only [Ak, Aj, Ai, Ah, Ag, Af, Ae, Ad]); simp (maxSteps := 10000000) (disch := omega) only [V5, Ft, List.length_map, htk, D4, hol, go_sem]
 refine Ld ?_
 (try simp only [Ak, Aj, Ai, Ah, Ag, Af, Ae, Ad]); simp (maxSteps := 10000000) (disch := omega) only [go_sem]
theorem Zq {l : List Evt} {rk : Evt → Nat} (e : Evt) {h d g} (hE : EvsOk l rk) (hg : h g = some (.row 21 (l.map Cn))) : FunOk Tryz.prog 16 [.os g, .vec 21 (Cn e)] h d (.vec 15 (A6 (Ey l l e))) [] :=
 FunOk.ioRow (fun h d hg => Ah2 e hE hg) rfl rfl hg
theorem Awf (l : List Ver) (v : Ver) : Ci (v :: l) = E6 (v.rep, v.seq) :: v.data :: Io v.gone :: Ci l := rfl
theorem Y7 (l : List Ver) : (Ci l).length = 3 * l.length := by
 induction l with
 | nil => rfl
 | cons v l ih => simp only [Ci, Aaq, List.length_append, List.length_cons, List.length_nil, ih]; omega
def obA (o : Obj) : List SV := [.vec 2 [.i .i64 o.id.1, .i .u32 o.id.2], .pv (.b o.dir), .vec 2 [.i .i64 o.last.1, .i .u32 o.last.2], .pv (.s o.name), .vec 8 (vE o.seen)]
def A2u (o : Obj) (k : Nat) : FS := mk [(4, .p 4 0), (3, .p 7 0), (2, .p 2 0)] [(2, some (.var (.agg [.pv (.i .i64 0), .pv (.i .u32 0), .pv (.b false), .pv (.i .i64 0), .pv (.i .u32 0), .pv (.s []), .vec 8 (vE fun _ => 0), .pv (.sl true 0 [])]))), (4, some (.var (.agg (obA o ++ [.os 60])))), (7, some (Lx false (Ci (o.vers.drop k)))), (60, some (.row 11 ((o.vers.take k).map Ba)))]
set_option maxHeartbeats 4000000 in
theorem Amw {o : Obj} (ho : WrO o) {h d} : FunOk Tryz.prog 29 [.pv (.sl false 1 (Am (G4 o)))] h d (.vec 15 (A6 o)) [] := by
 refine Iz Aq fn29 (by simp) rfl rfl fun F => ?_;have hp1 := Iw ho;have hp2 := Gc ho.v;have hvn := ho.vn
 (try simp only [Ak, Aj, Ai, Ah, Ag, Af, Ae, Ad]); simp (maxSteps := 10000000) (disch := omega) only [ir29, go_sem]
 refine Aa (Sr (L := Kv o ++ Ci o.vers) (by rw [Ej]; omega) (fun b hb => (List.mem_append.1 hb).elim (fun hb => by have := hp1.2 b hb; omega) fun hb => by have := hp2.2 b hb; omega)) ?_;have hL : Kv o ++ Ci o.vers = E6 o.id :: Fe o.dir :: E6 o.last :: o.name :: Io o.seen :: Ci o.vers := rfl;have hl := Y7 o.vers;rw [hL]
 (try simp only [Ak, Aj, Ai, Ah, Ag, Af, Ae, Ad]); simp (maxSteps := 10000000) (disch := omega) only [go_sem]
 refine Aa (Zs ho.id (by simp only [List.length_cons]; omega) rfl) ?_
 (try simp only [Ak, Aj, Ai, Ah, Ag, Af, Ae, Ad]); simp (maxSteps := 10000000) (disch := omega) only [go_sem]
 refine Aa (Jy (by simp only [List.length_cons]; omega) rfl) ?_
 (try simp only [Ak, Aj, Ai, Ah, Ag, Af, Ae, Ad]); simp (maxSteps := 10000000) (disch := omega) only [A0, go_sem]
 refine Aa (Zs ho.last (by simp only [List.length_cons]; omega) rfl) ?_
 (try simp only [Ak, Aj, Ai, Ah, Ag, Af, Ae, Ad]); simp (maxSteps := 10000000) (disch := omega) only [go_sem]
 refine Aa (Jy (by simp only [List.length_cons]; omega) rfl) ?_
 (try simp only [Ak, Aj, Ai, Ah, Ag, Af, Ae, Ad]); simp (maxSteps := 10000000) (disch := omega) only [go_sem]
 refine Aa (Abp ho.seen (by omega) rfl) ?_
 (try simp only [Ak, Aj, Ai, Ah, Ag, Af, Ae, Ad]); simp (maxSteps := 10000000) (disch := omega) only [go_sem]
 have hfd : decide (0 < ((Fe o.dir).length : Int)) = o.dir := by cases o.dir <;> rfl
 simp only [hfd];refine Sy 4 60 11 (a := obA o) (b := []) rfl (by decide) rfl rfl (by decide) ?_;refine A1 Aq (A2u o) (fun k => k ≤ o.vers.length) (fun k => o.vers.length - k) 0 (by simp) (An ?_ ?_) fun k hk => ?_
 · (try simp only [Ak, Aj, Ai, Ah, Ag, Af, Ae, Ad]); simp (maxSteps := 10000000) (disch := omega) only [go_sem]
 · (try simp only [Ak, Aj, Ai, Ah, Ag, Af, Ae, Ad]); simp (maxSteps := 10000000) (disch := omega) only [obA, Lx, List.drop_zero, List.take_zero, List.map_nil, go_sem]
 by_cases hlt : k < o.vers.length
 · have hd : o.vers.drop k = o.vers[k] :: o.vers.drop (k + 1) := List.drop_eq_getElem_cons hlt;have ht : o.vers.take (k + 1) = o.vers.take k ++ [o.vers[k]] := by rw [List.take_add_one, List.getElem?_eq_getElem hlt]; rfl
   obtain ⟨v1, v2, v3⟩ := ho.v _ (List.getElem_mem hlt);have hdl := Y7 (o.vers.drop (k + 1));have hdl2 : (o.vers.drop (k + 1)).length ≤ 60 := by simp; omega
   generalize o.vers[k] = v at *;have hb7 : Lx false (Ci (o.vers.drop k)) = .var (.pv (.sl false 1 ((Ci (o.vers.drop k)).map bE))) := rfl;have hll : (Ci (o.vers.drop k)).length = (Ci (o.vers.drop (k + 1))).length + 3 := by rw [hd]; rfl
   (try simp only [Ak, Aj, Ai, Ah, Ag, Af, Ae, Ad]); simp (maxSteps := 10000000) (disch := omega) only [A2u, hb7, obA, List.length_map, hll, go_sem]
   rw [hd, Awf];refine Aa (Zs v1 (L := v.data :: Io v.gone :: Ci (o.vers.drop (k + 1))) (by simp only [List.length_cons]; omega) rfl) ?_
   (try simp only [Ak, Aj, Ai, Ah, Ag, Af, Ae, Ad]); simp (maxSteps := 10000000) (disch := omega) only [go_sem]
   refine Aa (Jy (by simp only [List.length_cons]; omega) rfl) ?_
   (try simp only [Ak, Aj, Ai, Ah, Ag, Af, Ae, Ad]); simp (maxSteps := 10000000) (disch := omega) only [go_sem]
   refine Aa (Abp v3 (by omega) rfl) ?_
   (try simp only [Ak, Aj, Ai, Ah, Ag, Af, Ae, Ad]); simp (maxSteps := 10000000) (disch := omega) only [go_sem]
   refine ⟨by simp; omega, k + 1, by omega, by omega, Cf 44 60 (by decide) rfl (An ?_ ?_)⟩
   · (try simp only [Ak, Aj, Ai, Ah, Ag, Af, Ae, Ad]); simp (maxSteps := 10000000) (disch := omega) only [go_sem]
   · (try simp only [Ak, Aj, Ai, Ah, Ag, Af, Ae, Ad]); simp (maxSteps := 10000000) (disch := omega) only [Lx, obA, ht, List.map_append, List.map_cons, List.map_nil, Ba, go_sem]
 obtain rfl : k = o.vers.length := by omega
 have hd0 : o.vers.drop o.vers.length = [] := by simp
 have ht0 := List.take_length (l := o.vers)
 (try simp only [Ak, Aj, Ai, Ah, Ag, Af, Ae, Ad]); simp (maxSteps := 10000000) (disch := omega) only [A2u, hd0, ht0, Lx, Ci, obA, go_sem]
 refine ⟨_, Eu 60 rfl (.same _), ?_⟩
 (try simp only [Ak, Aj, Ai, Ah, Ag, Af, Ae, Ad]); simp (maxSteps := 10000000) (disch := omega) only [go_sem]
 exact Abw o
end Go.Proofs.YtannaphhhkncoaaGreat.Fw
namespace Go.Proofs.YtannaphhhkncoaaGreat.Fw
open Go.RowKit Go.Proofs
variable {P : Program} {F : Fr} {N : Nat} {ρ ρ' : Nat → Value} {s : FS} {a : Act} {w w' : World} {V V' : View}
def W2 (P : Program) (f : Nat) : Option Code := match P.funcs[f]? with
 | some fn => match fn.body with
   | some (.seq _ (.seq b _)) => some b
   | _ => none
 | none => none
def R7 (P : Program) (g T : Nat) (b : Code) : Prop := ∀ (a : Act) (w : World) (Q : Exit → Act → World → Prop), T < a.tmps.size → (∀ v1 v2 x, Q .normal ⟨a.tmps.setIfInBounds T x, { target := .fn (.func g) #[v1, v2], args := #[] } :: a.defers⟩ w) → b.wpIn (Gd none) 0 P Q a w
def Ac8 (P : Program) (g : Nat) : Prop := (∀ args w, (invoke (.fn (.func g) args) #[]).run P w = .ok (.enter g args) w) ∧ ∀ (v1 v2 : Value) (w : World), CallsDIn (Gd none) 0 P g #[v1, v2] .returning w fun e u' w' => e = .returned (.tuple #[]) ∧ u' = .returning ∧ w' = w
theorem Aq3 {x y : Code} {A B : C} (h : Bn P N (.seq x y) = some (.seq A B)) : Bn P N x = some A ∧ Bn P N y = some B := by
 simp only [Bn] at h;split at h
 · rename_i a b ha hb;cases h;exact ⟨ha, hb⟩
 · cases h
theorem A4q {f : Nat} {fn : Func} {b code : Code} (h : W2 P f = some b) (h1 : P.funcs[f]? = some fn) (h3 : fn.body = some code) : ∃ x z, code = .seq x (.seq b z) := by
 simp only [W2, h1, h3] at h;split at h
 · rename_i x b' z e;cases h;exact ⟨x, z, Option.some.inj e⟩
 · cases h
theorem Ajb (hm : P.follows .mixedOrders = true) {f N' g T : Nat} {rs : List Rv} {A B : C} {b : Code} (hf : Bf P f = some (N', rs, .seq A (.seq .bad B))) (hb : W2 P f = some b) (hd : R7 P g T b) (hq : Ac8 P g) {F0 : Fr} {s0 : FS} {vs : List Value} (h0 : F0.defs = []) (hok : F0.ok F0.w0) (hm0 : ∀ b, F0.M0 b → b < F0.w0.heap.size) (hT : T < N')
 (hR : RelR F0 N' ρ s0 { tmps := (⟨vs⟩ : Array Value) ++ Array.replicate (N' - (⟨vs⟩ : Array Value).size) undef, defers := [] } w) {R : SV → FS → Prop}
 (hrun : sx (Z6 P F0 N') A (fun e s => e = .normal ∧ ∀ X, sx (Ff P none X N') B (Yh rs R) (s.set T .dead)) s0) :
 Calls P f ⟨vs⟩ w fun e w' => ∃ v ρ' s' a' y, e = .returned v ∧ RelR F0 N' ρ' s' a' w' ∧ Conc (vw F0 w' ρ' s') ρ' y v ∧ R y s' := by
 obtain ⟨fn, code, h1, h2, h3, h4, h5, h6⟩ := O2 hf;subst h4;obtain ⟨x, z, rfl⟩ := A4q hb h1 h3;obtain ⟨hx, hy⟩ := Aq3 h6;obtain ⟨_, hz⟩ := Aq3 hy;refine callsIn_wide.1 (callsIn_of_wp_marks (F := Gd none) (n := 0) h1 h3 trivial (wpIn_seq (wpIn_mono (Jr hm hx hrun ⟨F0, Desc.refl hok hm0 h0, ρ, hR⟩) fun e a1 w1 he => ?_)));cases e with
 | ret => obtain ⟨s, h, hq⟩ := he; cases hq.1
 | exit id => obtain ⟨s, h, hq⟩ := he; cases hq.1
 | goto _ => exact he.elim
 | panic _ => exact he.elim
 | outgrown => exact he.elim
 | normal =>
 obtain ⟨s1, ⟨F, hF, ρ1, hR1⟩, _, hB⟩ := he;refine wpIn_seq (hd a1 w1 _ (by rw [hR1.size]; exact hT) fun v1 v2 xv => ?_)
 let df : Deferred := { target := .fn (.func g) #[v1, v2], args := #[] }
 have hR2 : RelR { F with defs := df :: F.defs } fn.ntmps ρ1 (s1.set T .dead) ⟨a1.tmps.setIfInBounds T xv, df :: a1.defers⟩ w1 := by
  refine ⟨⟨hR1.fr.os, hR1.fr.tape, hR1.fr.output, hR1.fr.size, hR1.fr.block, hR1.fr.hid, hR1.fr.tab⟩, hR1.may, hR1.own, hR1.inj, fun n => ?_, by simpa using hR1.size, by rw [hR1.defers]⟩;show Conc _ ρ1 (if n = T then .dead else s1.t n) _;by_cases hn : n = T
  · rw [if_pos hn]; simp only [Conc]
  · rw [if_neg hn];have h1 := hR1.tmps n;have e : Fr.val { F with defs := df :: F.defs } ⟨a1.tmps.setIfInBounds T xv, df :: a1.defers⟩ n = F.val a1 n := by
     unfold Fr.val;by_cases hb : n < Eo
     · rw [if_pos hb, if_pos hb];simp only [Array.getD_eq_getD_getElem?, Array.getElem?_setIfInBounds];rw [if_neg (Ne.symm hn)]
     · rw [if_neg hb, if_neg hb]
    rw [e];exact h1
 refine wpIn_mono (Jr hm hz (hB fun F' => F' = { F with defs := df :: F.defs }) ⟨_, rfl, ρ1, hR2⟩) fun e a2 w2 he => ?_;have fin : (∃ s, RelX (fun F' => F' = { F with defs := df :: F.defs }) fn.ntmps s a2 w2 ∧ Wi rs R s) → LeavesInM (Gd none) 0 P fn a2.tmps (fun e w' => ∃ v ρ' s' a' y, e = .returned v ∧ RelR F0 fn.ntmps ρ' s' a' w' ∧ Conc (vw F0 w' ρ' s') ρ' y v ∧ R y s') a2.defers .returning w2 := fun ⟨s2, hX, s', hwk, hr⟩ => by
  obtain ⟨F', rfl, ρ', hR'⟩ := hX.wk hwk;rw [hR'.defers];refine ⟨by simp, .inr ⟨fun h => by simp at h, .func g, #[v1, v2], g, #[v1, v2], rfl, by simp only [df]; exact hq.1 _ _, fun _ _ => trivial, (hq.2 v1 v2 w2).mono ?_⟩⟩;rintro e u' w3 ⟨rfl, rfl, rfl⟩;refine Xb h5 h0 hr (fun l v w k1 k2 k3 => ⟨v, ρ', s', _, _, rfl, k2, k3, k1⟩) F.defs (F := F) ⟨hF.base, hF.m0, hF.may, hF.hid, hF.x, trivial⟩ hF.marks ?_;exact ⟨⟨hR'.fr.os, hR'.fr.tape, hR'.fr.output, hR'.fr.size, hR'.fr.block, hR'.fr.hid, hR'.fr.tab⟩, hR'.may, hR'.own, hR'.inj, hR'.tmps, hR'.size, rfl⟩
 cases e with
 | normal => exact fin he
 | ret => exact fin he
 | exit id => obtain ⟨s, h, hq⟩ := he; exact hq.elim
 | goto _ => exact he.elim
 | panic _ => exact he.elim
 | outgrown => exact he.elim
theorem Ajc (hm : P.follows .mixedOrders = true) {f g T : Nat} {rs : List Rv} {A B : C} {b : Code} (hf : Bf P f = some (N, rs, .seq A (.seq .bad B))) (hb : W2 P f = some b) (hd : R7 P g T b) (hq : Ac8 P g) (hT : T < N) {hid : Nat → Prop} (hhid : ∀ b, hid b → b < w.heap.size) (htw : Aph w) {args : List SV} {vs : List Value} (hlen : args.length ≤ N)
 (hc : ConcL (Az w hid) ρ args vs) {R : SV → FS → Prop} (hrun : sx (Z6 P ⟨w, fun _ => False, hid, fun _ => undef, []⟩ N) A (fun e s => e = .normal ∧ ∀ X, sx (Ff P none X N) B (Yh rs R) (s.set T .dead)) (mk (C4 0 args) [])) :
 Calls P f ⟨vs⟩ w fun e w' => ∃ v ρ' s' a' y, e = .returned v ∧ RelR ⟨w, fun _ => False, hid, fun _ => undef, []⟩ N ρ' s' a' w' ∧ Conc (vw ⟨w, fun _ => False, hid, fun _ => undef, []⟩ w' ρ' s') ρ' y v ∧ R y s' := by
 obtain ⟨fn, code, h1, h2, h3, h4, h5, h6⟩ := O2 hf;subst h4;have hN := Rs hf;have hvl : vs.length = args.length := by
  clear hrun hlen
  induction args generalizing vs with
  | nil => simp only [ConcL] at hc; subst hc; rfl
  | cons x l ih =>
    simp only [ConcL] at hc;obtain ⟨v, us, rfl, _, h⟩ := hc;simp [ih h]
 have hR : RelR ⟨w, fun _ => False, hid, fun _ => undef, []⟩ fn.ntmps ρ (mk (C4 0 args) []) { tmps := (⟨vs⟩ : Array Value) ++ Array.replicate (fn.ntmps - (⟨vs⟩ : Array Value).size) undef, defers := [] } w := by
  have how : ∀ b, ¬ Ck ρ (mk (C4 0 args) []).h b := fun b ⟨n, x, h, _⟩ => by simp [mk, lk] at h
  have hV : (Az w hid).le (Az w ((⟨w, fun _ => False, hid, fun _ => undef, []⟩ : Fr).out ρ (mk (C4 0 args) []).h)) :=
   Bi fun b c ho hc => ⟨fun hb => hb.elim (how b) ho, hc⟩
  refine ⟨⟨rfl, rfl, rfl, Nat.le_refl _, fun _ _ _ => rfl, fun b hb => ⟨hhid b hb, id⟩, ⟨htw, fun _ _ => id⟩⟩, fun b hb => absurd hb (how b), fun n x hx => by simp [mk, lk] at hx, fun n m x y b hx => by simp [mk, lk] at hx, fun n => ?_, by simp; omega, rfl⟩;have := (Hq 0 n hc).mono hV;simp only [Nat.zero_le, if_true, Nat.sub_zero] at this;simp only [mk];have he : ((⟨vs⟩ : Array Value) ++ Array.replicate (fn.ntmps - (⟨vs⟩ : Array Value).size) undef).getD n undef = (vs[n]?).getD undef := by
   rw [Array.getD_eq_getD_getElem?];by_cases hn : n < vs.length
   · rw [Array.getElem?_append_left (by simpa using hn)]; simp
   · rw [Array.getElem?_append_right (by simpa using hn)];rw [List.getElem?_eq_none (by omega)];simp only [Array.getElem?_replicate, Option.getD_none];split <;> rfl
  unfold Fr.val;by_cases hb : n < Eo
  · rw [if_pos hb, he]; exact this
  · rw [if_neg hb];rw [List.getElem?_eq_none (by omega)] at this; exact this
 exact Ajb hm hf hb hd hq rfl (by exact ⟨rfl, rfl, rfl, Nat.le_refl _, fun _ _ _ => rfl, fun b hb => ⟨hhid b hb, id⟩, ⟨htw, fun _ _ => id⟩⟩) (fun b (h : False) => h.elim) hT hR hrun
theorem Aoc (hm : P.follows .mixedOrders = true) {f N' g T : Nat} {rs : List Rv} {A B : C} {b : Code} (hf : Bf P f = some (N', rs, .seq A (.seq .bad B))) (hb : W2 P f = some b) (hd : R7 P g T b) (hq : Ac8 P g) (hT : T < N') {args : List SV} {h : Nat → Option Blk} {d : Nat} {x : SV} (hlen : args.length ≤ N')
 (hargs : SV.closedL args = true) (hx : x.closed = true) (hrun : ∀ F, sx (Z6 P F N') A (fun e s => e = .normal ∧ ∀ X, sx (Ff P none X N') B (Yh rs fun y _ => Imp y x) (s.set T .dead)) (mk (C4 0 args) [])) : FunOk P f args h d x [] := by
 obtain ⟨h1, h2, h3⟩ := Bl hargs;refine ⟨Cj hf, fun F N ρ s a w hR hh vs hc => ?_⟩;have hRb := hR.weak (Lj s []);have hcb := Mb hR (ns := Du args) h2 hh (fun _ h => h) hc;rw [h1, h3] at hcb;refine Calls.mono (Ajc hm hf hb hd hq hT (hid := F.out ρ (C1 s []).h) (fun b hb => ?_) hR.tabW hlen hcb (hrun _)) fun e w' he => ?_
 · rcases hb with hb | hb
   · exact hRb.lt hb
   · exact Nat.lt_of_lt_of_le (hR.fr.hid b hb).1 hR.fr.size
 obtain ⟨v, ρ', s', a', y, rfl, hR', hy, hyx⟩ := he;have hg : Grew w w' := ⟨hR'.fr.os, hR'.fr.tape, hR'.fr.output, hR'.fr.size, fun b hb => hR'.fr.block b hb id⟩
 rw [Dk] at hR' hy;exact ⟨v, ρ, rfl, hR.grew hg, Bz (Jk hR') hx (hyx _ _ _ hy)⟩
end Go.Proofs.YtannaphhhkncoaaGreat.Fw
namespace Go.Proofs.YtannaphhhkncoaaGreat.Fw
open Go.RowKit Go.Proofs
theorem Bb6 (w : World) : Sem.run Tryz.prog (Instr.typeAssert Value.nilIface 20 38 true) w = .ok (.tuple #[.int .i64 0, .bool false]) w := by kernel_rfl
theorem Axs : Ac8 Tryz.prog 25 := by
 refine ⟨fun args w => by simp [go_sem, Tryz.func25, Tryz.f25], fun v1 v2 w => ?_⟩;refine callsDIn_of_wpSIn Tryz.func25 rfl trivial fun c₀ cs hu => ?_;apply wpSIn_seq;apply wpSIn_region;simp [wpOpsSIn, go_sem, recoverD, hu, Tryz.ntmps25, Exit.thenS, Bb6];apply wpSIn_seq;apply wpSIn_region;simp [wpOpsSIn, go_sem, Exit.thenS];refine wpSIn_cond (t := false) (by simp [Act.eval, Array.replicate]) ?_;simp only [Bool.false_eq_true, if_false];refine wpSIn_of_wpIn rfl (wpIn_skip ?_);cases c₀
 simp_all [bodyPostS, results, Tryz.results25]
theorem Bcm : ∃ b, W2 Tryz.prog 9 = some b ∧ R7 Tryz.prog 25 12 b := by
 simp only [W2, Tryz.func9, Tryz.f9, Option.some.injEq, exists_eq_left'];intro a w Q hT h;have hmf : ∀ (fn : Fn) (first cap : Array Value) (w : World), (Instr.makeFunc fn first cap).run Tryz.prog w = .ok (.func fn first cap) w := fun _ _ _ _ => rfl;apply wpIn_region;simp [wpOpsIn, Oper.wpIn, go_sem, hmf, hT, Oper.uponIn, Result.andThen];exact h _ _ _
def Hj (l : List Obj) (o : Obj) : List Obj := l.take (D7 l o.id) ++ o :: l.drop (D7 l o.id)
noncomputable def Dw (l : List Evt) (p : St × Vc) (e : Evt) : St × Vc :=
 if e.kind = 1 ∨ e.kind = 2 then ({ p.1 with objs := Hj p.1.objs (Ey l l e) }, p.2)
 else if e.kind = 8 then (if Mk p.2 e.rep < e.seq then (Qs p.1 e, Br p.2 e.rep e.seq) else p)
 else if e.kind = 9 then (Aeh p.1 e, p.2)
 else p
noncomputable def Hp (l m : List Evt) : St × Vc := m.foldl (Dw l) (⟨Dg l, [], Eh l l, fun _ => 0, fun _ => false⟩, fun _ => 0)
noncomputable def Bv (l : List Evt) : St := (Hp l l).1
theorem Pa (l m : List Evt) (e : Evt) : Hp l (m ++ [e]) = Dw l (Hp l m) e := by simp [Hp]
theorem Asr {l : List Obj} {o x : Obj} : x ∈ Hj l o ↔ x = o ∨ x ∈ l := by
 unfold Hj;simp only [List.mem_append, List.mem_cons];have : x ∈ l ↔ x ∈ l.take (D7 l o.id) ∨ x ∈ l.drop (D7 l o.id) := by rw [← List.mem_append, List.take_append_drop]
 rw [this];constructor
 · rintro (h | h | h)
   · exact .inr (.inl h)
   · exact .inl h
   · exact .inr (.inr h)
 · rintro (h | h | h)
   · exact .inr (.inl h)
   · exact .inl h
   · exact .inr (.inr h)
theorem Afg (l : List Obj) (o : Obj) : (Hj l o).length = l.length + 1 := by
 unfold Hj;simp only [List.length_append, List.length_take, List.length_cons, List.length_drop];have := Q1 l o.id; omega
theorem Ax8 (l : List Obj) (o : Obj) : (Hj l o).map obN = Up (l.map obN) (obN o) := by
 unfold Hj Up D7;simp [List.map_take, List.map_drop]; rfl
theorem Amh {l : List Obj} {o : Obj} (hs : H7 l) (hn : ∀ x ∈ l, x.id ≠ o.id) : H7 (Hj l o) := by
 unfold H7; rw [Ax8];refine Adx hs (Hi.2 fun x hx => ?_);obtain ⟨u, hu, rfl⟩ := List.mem_map.1 hx;exact hn u hu
theorem Jz (l : List Evt) (e : Evt) : ∀ m : List Evt, (Ey l m e).id = A2 e := fun m => by
 unfold Ey;generalize hq : (⟨A2 e, decide (e.kind = 2), A2 e, e.name, fun _ => 0, D6 l (A2 e) l⟩ : Obj) = o;have : o.id = A2 e := by rw [← hq]
 clear hq
 induction m generalizing o with
 | nil => exact this
 | cons f m ih =>
   simp only [List.foldl_cons];refine ih _ ?_;unfold E2;split
   · split
     · split <;> exact this
     · split <;> exact this
   · exact this
theorem R3 {l : List Evt} : ∀ (n : Nat) (m : List Evt), m.length = n → NodE m → H7 (Hp l m).1.objs ∧ (Hp l m).1.objs.length ≤ n ∧ ∀ o, o ∈ (Hp l m).1.objs ↔ ∃ e ∈ m, (e.kind = 1 ∨ e.kind = 2) ∧ o = Ey l l e
 | 0, m, h, _ => by obtain rfl := List.eq_nil_of_length_eq_zero h; exact ⟨List.Pairwise.nil, by simp [Hp], by simp [Hp]⟩
 | n + 1, m, h, hn => by
   have hne : m ≠ [] := fun e => by subst e; simp at h
   have e1 := (List.dropLast_concat_getLast hne).symm;have hn' : NodE m.dropLast := by unfold NodE at *; rw [List.map_dropLast]; exact hn.sublist (List.dropLast_sublist _)
   obtain ⟨h1, h2, h3⟩ := R3 (l := l) n m.dropLast (by simp [h]) hn';rw [e1] at hn ⊢;rw [Pa];generalize m.getLast hne = e at *;generalize m.dropLast = m' at *;have grow : ∀ o : Obj, ((∃ f ∈ m' ++ [e], (f.kind = 1 ∨ f.kind = 2) ∧ o = Ey l l f) ↔ (∃ f ∈ m', (f.kind = 1 ∨ f.kind = 2) ∧ o = Ey l l f) ∨ ((e.kind = 1 ∨ e.kind = 2) ∧ o = Ey l l e)) := fun o => by
    simp only [List.mem_append, List.mem_singleton];constructor
    · rintro ⟨f, hf | rfl, h⟩
      · exact .inl ⟨f, hf, h⟩
      · exact .inr h
    · rintro (⟨f, hf, h⟩ | h)
      · exact ⟨f, .inl hf, h⟩
      · exact ⟨e, .inr rfl, h⟩
   by_cases h12 : e.kind = 1 ∨ e.kind = 2
   · have hS : (Dw l (Hp l m') e).1.objs = Hj (Hp l m').1.objs (Ey l l e) := by unfold Dw; rw [if_pos h12]
     rw [hS];have hnew : ∀ x ∈ (Hp l m').1.objs, x.id ≠ (Ey l l e).id := fun x hx => by
      obtain ⟨f, hf, _, rfl⟩ := (h3 x).1 hx;rw [Jz, Jz];unfold NodE at hn;rw [List.map_append, List.nodup_append] at hn;exact hn.2.2 (A2 f) (List.mem_map_of_mem hf) (A2 e) (by simp)
     refine ⟨Amh h1 hnew, by rw [Afg]; omega, fun o => ?_⟩;rw [Asr, h3, grow];constructor
     · rintro (h | h)
       · exact .inr ⟨h12, h⟩
       · exact .inl h
     · rintro (h | h)
       · exact .inr h
       · exact .inl h.2
   · have hS : (Dw l (Hp l m') e).1.objs = (Hp l m').1.objs := by
      unfold Dw; rw [if_neg h12];split
      · split <;> rfl
      · split <;> rfl
     rw [hS];refine ⟨h1, by omega, fun o => ?_⟩;rw [h3, grow];exact ⟨.inl, fun h => h.resolve_right fun q => h12 q.1⟩
theorem Agj (l m : List Evt) : (Hp l m).1.ents = Eh l l ∧ (Hp l m).1.known = Dg l := by
 unfold Hp;generalize hq : ((⟨Dg l, [], Eh l l, fun _ => 0, fun _ => false⟩ : St), (fun _ => 0 : Vc)) = p;have : p.1.ents = Eh l l ∧ p.1.known = Dg l := by rw [← hq]; exact ⟨rfl, rfl⟩
 clear hq
 induction m generalizing p with
 | nil => exact this
 | cons f m ih =>
   simp only [List.foldl_cons];refine ih _ ?_;unfold Dw;split
   · exact this
   · split
     · split
       · exact this
       · exact this
     · split <;> exact this
noncomputable def Tz (f : Bool) (l : List Evt) (k : Nat) : FS := mk [(5, .pv (.i .i64 k)), (0, .pv (.sl f 21 (l.map Cn))), (2, .p 2 0), (3, .p 3 0), (4, .p 4 0)] [(2, some (.var Cd)), (3, some (.var (.agg (Bb (Hp l (l.take k)).1)))), (4, some (.var (.vec 8 (vE (Hp l (l.take k)).2))))]
noncomputable def Tx (f : Bool) (l : List Evt) (k : Nat) : FS := mk [(5, .pv (.i .i64 k)), (0, .os 900), (2, .p 2 0), (3, .p 3 0), (4, .p 4 0), (1000000, .os 900)] [(2, some (.var Cd)), (3, some (.var (.agg (Bb (Hp l (l.take k)).1)))), (4, some (.var (.vec 8 (vE (Hp l (l.take k)).2)))), (900, some (.row 21 (l.map Cn)))]
noncomputable def Zg (f : Bool) (l : List Evt) (k : Nat) (e : Evt) (S : St) (v : Vc) (o : Obj) (j : Nat) : FS := mk [(8, .pv (.i .i64 j)), (7, .p 7 0), (6, .p 6 0), (5, .pv (.i .i64 k)), (0, .pv (.sl f 21 (l.map Cn))), (2, .p 2 0), (3, .p 3 0), (4, .p 4 0)] [(7, some (.var (.vec 15 (A6 o)))), (6, some (.var (.vec 21 (Cn e)))), (2, some (.var Cd)), (3, some (.var (.agg (Bb S)))), (4, some (.var (.vec 8 (vE v))))]
noncomputable def Zf (f : Bool) (l : List Evt) (k : Nat) (e : Evt) (S : St) (v : Vc) (o : Obj) (j : Nat) : FS := mk [(8, .pv (.i .i64 j)), (7, .p 7 0), (6, .p 6 0), (5, .pv (.i .i64 k)), (0, .os 900), (2, .p 2 0), (3, .p 3 0), (4, .p 4 0), (1000000, .os 900)] [(7, some (.var (.vec 15 (A6 o)))), (6, some (.var (.vec 21 (Cn e)))), (2, some (.var Cd)), (3, some (.var (.agg (Bb S)))), (4, some (.var (.vec 8 (vE v)))), (900, some (.row 21 (l.map Cn)))]
theorem Oh {l : List Obj} {i : Ca} {k : Nat} {x : Obj} (hk : k < D7 l i) (hx : l[k]? = some x) : M8 x.id i = true := by
 obtain ⟨y, h1, h2⟩ := A3u (l := l.map obN) hk;rw [Vf hx] at h1; cases h1; exact h2
theorem Q2 {l : List Obj} (hs : H7 l) {i : Ca} {k : Nat} {x : Obj} (hk : D7 l i ≤ k) (hx : l[k]? = some x) : ¬ M8 x.id i = true := A3v (l := l.map obN) hs hk (Vf hx)
set_option maxHeartbeats 16000000 in
theorem Aeu {f : Bool} {l : List Evt} {rk : Evt → Nat} {h d} (hE : EvsOk l rk) (hB : ∀ e ∈ l, 1 ≤ e.rep ∧ e.rep ≤ 8) : FunOk Tryz.prog 6 [.pv (.sl f 21 (l.map Cn))] h d (.agg (Bb (Bv l))) [] := by
 refine A7 Aq fn6 (by simp) rfl rfl fun F => ?_;have hn := hE.len;have hevs : ∀ e ∈ l, ev e := fun e he => (hE.ev e he).1
 (try simp only [Ak, Aj, Ai, Ah, Ag, Af, Ae, Ad]); simp (maxSteps := 10000000) (disch := omega) only [ir6, Blk.ptr, go_sem]
 refine Aa (Aku (l := l) rfl rfl (by omega)) ?_
 (try simp only [Ak, Aj, Ai, Ah, Ag, Af, Ae, Ad]); simp (maxSteps := 10000000) (disch := omega) only [go_sem]
 refine Aa (Zt (l := l) rfl rfl (by omega) hevs) ?_
 (try simp only [Ak, Aj, Ai, Ah, Ag, Af, Ae, Ad]); simp (maxSteps := 10000000) (disch := omega) only [go_sem]
 refine A1 Aq (Tz f l) (fun k => k ≤ l.length) (fun k => l.length - k) 0 (by simp) (An ?_ ?_) fun k hk => ?_
 · (try simp only [Ak, Aj, Ai, Ah, Ag, Af, Ae, Ad]); simp (maxSteps := 10000000) (disch := omega) only [go_sem]
 · (try simp only [Ak, Aj, Ai, Ah, Ag, Af, Ae, Ad]); simp (maxSteps := 10000000) (disch := omega) only [Hp, List.take_zero, List.foldl_nil, Cd, go_sem]
   exact ⟨Ake (s := ⟨Dg l, [], Eh l l, fun _ => 0, fun _ => false⟩) (.inl rfl) (.inr rfl) trivial (.refl _), rfl⟩
 by_cases hlt : k < l.length
 · have hx : l[k]? = some l[k] := List.getElem?_eq_getElem hlt;have he : (l.map Cn)[k]? = some (Cn l[k]) := by rw [List.getElem?_map, hx]; rfl
   have ht := Dt hx;have hsn := Pa l (l.take k) l[k];have hlk : (l.take k).length ≤ 400 := by simp; omega
   have hnd := hE.nod.take (k + 1);rw [← ht] at hsn;rw [ht] at hnd;have hrep := hB _ (List.getElem_mem hlt);generalize l[k] = e at *;obtain ⟨hso, hol, hom⟩ := R3 (l := l) _ (l.take k) rfl (hE.nod.take k);have hel := Ac e;generalize hX : Hp l (l.take k) = X at *;obtain ⟨S, v⟩ := X;simp only at hso hol hom;by_cases h12 : e.kind = 1 ∨ e.kind = 2
   · have hs : Dw l (S, v) e = ({ S with objs := Hj S.objs (Ey l l e) }, v) := by unfold Dw; rw [if_pos h12]
     rw [hs] at hsn;have n8 : ¬ e.kind = 8 := by omega
     have n9 : ¬ e.kind = 9 := by omega
     have hoe := C5 (Ey l l e);have hoi := Jz l e l;have hnew : ∀ x ∈ S.objs, x.id ≠ A2 e := fun x hx => by
      obtain ⟨f, hf, _, rfl⟩ := (hom x).1 hx;rw [Jz];unfold NodE at hnd;rw [List.map_append, List.nodup_append] at hnd;exact hnd.2.2 (A2 f) (List.mem_map_of_mem hf) (A2 e) (by simp)
     rcases h12 with h1 | h2
     · (try simp only [Ak, Aj, Ai, Ah, Ag, Af, Ae, Ad]); simp (maxSteps := 10000000) (disch := omega) only [Tz, hX, List.length_map, he, Dm, hel, Ax, h1, go_sem]
       refine Aa (Zr e hE) ?_
       (try simp only [Ak, Aj, Ai, Ah, Ag, Af, Ae, Ad]); simp (maxSteps := 10000000) (disch := omega) only [hoe, Bb, Bg, List.length_map, Cd, go_sem]
       generalize hO : Ey l l e = o at *;have hp0 := Q1 S.objs (A2 e);refine A1 Aq (Zg f l k e S v o) (fun j => D7 S.objs (A2 e) ≤ j ∧ j ≤ S.objs.length) (fun j => j) S.objs.length ⟨hp0, Nat.le_refl _⟩ (An ?_ ?_) fun j hj => ?_
       · (try simp only [Ak, Aj, Ai, Ah, Ag, Af, Ae, Ad]); simp (maxSteps := 10000000) (disch := omega) only [go_sem]
       · (try simp only [Ak, Aj, Ai, Ah, Ag, Af, Ae, Ad]); simp (maxSteps := 10000000) (disch := omega) only [Bb, Bg, Cd, go_sem]
       obtain ⟨hj1, hj2⟩ := hj;by_cases hj0 : j = 0
       · subst hj0;have hjq : D7 S.objs (A2 e) = 0 := by omega
         (try simp only [Ak, Aj, Ai, Ah, Ag, Af, Ae, Ad]); simp (maxSteps := 10000000) (disch := omega) only [Zg, Bb, Bg, Cd, go_sem]
         have hT : (S.objs.map A6).take S.objs.length = S.objs.map A6 := List.take_of_length_le (by simp);have hD : ((S.objs.map A6).drop 0).length = S.objs.length - 0 := by simp
         have hD2 : ((S.objs.map A6).take 0).length = 0 := by rw [List.length_take, List.length_map]; omega
         have hI : (S.objs.map A6).take 0 ++ A6 o :: S.objs.map A6 = (Hj S.objs o).map A6 := by
          unfold Hj; rw [hoi, hjq]; simp [List.map_take, List.map_drop]
         refine G3 ?_
         (try simp only [Ak, Aj, Ai, Ah, Ag, Af, Ae, Ad]); simp (maxSteps := 10000000) (disch := omega) only [List.length_map, D4, hoe, hT, hD, hD2, Ax, n8, n9, go_sem]
         refine ⟨k + 1, by omega, by omega, Eu 70 rfl (An ?_ ?_)⟩
         · (try simp only [Ak, Aj, Ai, Ah, Ag, Af, Ae, Ad]); simp (maxSteps := 10000000) (disch := omega) only [go_sem]
         · (try simp only [Ak, Aj, Ai, Ah, Ag, Af, Ae, Ad]); simp (maxSteps := 10000000) (disch := omega) only [hI, hsn, Bb, Bg, Cd, go_sem]
       · have hjx : j - 1 < S.objs.length := by omega
         have hx3 : S.objs[j - 1]? = some S.objs[j - 1] := List.getElem?_eq_getElem hjx;have he3 : (S.objs.map A6)[j - 1]? = some (A6 S.objs[j - 1]) := by rw [List.getElem?_map, hx3]; rfl
         have hmx := List.getElem_mem hjx;have ejn : ((j : Int) - 1).toNat = j - 1 := by omega
         have hjp : (0 : Int) < j := by omega
         generalize S.objs[j - 1] = x at *
         (try simp only [Ak, Aj, Ai, Ah, Ag, Af, Ae, Ad]); simp (maxSteps := 10000000) (disch := omega) only [Zg, Bb, Bg, Cd, hjp, List.length_map, ejn, he3, C6, go_sem]
         refine Aa (Fj o.id.1 o.id.2 x.id.1 x.id.2) ?_;by_cases hlx : C8 o.id.1 o.id.2 x.id.1 x.id.2 = true
         · (try simp only [Ak, Aj, Ai, Ah, Ag, Af, Ae, Ad]); simp (maxSteps := 10000000) (disch := omega) only [hlx, go_sem]
           refine Al (j - 1) _ _ rfl ⟨?_, by omega⟩ (by omega) ?_ ?_
           · have : ¬ D7 S.objs (A2 e) = j := fun q => Xg (Oh (i := A2 e) (by omega) hx3) (by rw [← hoi]; exact hlx);omega
           · (try simp only [Ak, Aj, Ai, Ah, Ag, Af, Ae, Ad]); simp (maxSteps := 10000000) (disch := omega) only [go_sem]
           · (try simp only [Ak, Aj, Ai, Ah, Ag, Af, Ae, Ad]); simp (maxSteps := 10000000) (disch := omega) only [Bb, Bg, Cd, go_sem]
         · have hlx' : C8 o.id.1 o.id.2 x.id.1 x.id.2 = false := by simpa using hlx
           have hjq : D7 S.objs (A2 e) = j := by
            have h3 : M8 x.id (A2 e) = true := by
             rw [hoi] at hlx;exact Mi hlx (fun q => hnew x hmx q.symm)
            have : ¬ D7 S.objs (A2 e) ≤ j - 1 := fun q => Q2 hso q hx3 h3;omega
           (try simp only [Ak, Aj, Ai, Ah, Ag, Af, Ae, Ad]); simp (maxSteps := 10000000) (disch := omega) only [hlx', go_sem]
           have hT : (S.objs.map A6).take S.objs.length = S.objs.map A6 := List.take_of_length_le (by simp);have hD : ((S.objs.map A6).drop j).length = S.objs.length - j := by simp
           have hD2 : ((S.objs.map A6).take j).length = j := by rw [List.length_take, List.length_map]; omega
           have hI : (S.objs.map A6).take j ++ A6 o :: (S.objs.map A6).drop j = (Hj S.objs o).map A6 := by
            unfold Hj; rw [hoi, hjq]; simp [List.map_take, List.map_drop]
           refine G3 ?_
           (try simp only [Ak, Aj, Ai, Ah, Ag, Af, Ae, Ad]); simp (maxSteps := 10000000) (disch := omega) only [List.length_map, D4, hoe, hT, hD, hD2, Ax, n8, n9, go_sem]
           refine ⟨k + 1, by omega, by omega, Eu 70 rfl (An ?_ ?_)⟩
           · (try simp only [Ak, Aj, Ai, Ah, Ag, Af, Ae, Ad]); simp (maxSteps := 10000000) (disch := omega) only [go_sem]
           · (try simp only [Ak, Aj, Ai, Ah, Ag, Af, Ae, Ad]); simp (maxSteps := 10000000) (disch := omega) only [hI, hsn, Bb, Bg, Cd, go_sem]
     · have n1 : ¬ e.kind = 1 := by omega
       (try simp only [Ak, Aj, Ai, Ah, Ag, Af, Ae, Ad]); simp (maxSteps := 10000000) (disch := omega) only [Tz, hX, List.length_map, he, Dm, hel, Ax, n1, h2, go_sem]
       refine Aa (Zr e hE) ?_
       (try simp only [Ak, Aj, Ai, Ah, Ag, Af, Ae, Ad]); simp (maxSteps := 10000000) (disch := omega) only [hoe, Bb, Bg, List.length_map, Cd, go_sem]
       generalize hO : Ey l l e = o at *;have hp0 := Q1 S.objs (A2 e);refine A1 Aq (Zg f l k e S v o) (fun j => D7 S.objs (A2 e) ≤ j ∧ j ≤ S.objs.length) (fun j => j) S.objs.length ⟨hp0, Nat.le_refl _⟩ (An ?_ ?_) fun j hj => ?_
       · (try simp only [Ak, Aj, Ai, Ah, Ag, Af, Ae, Ad]); simp (maxSteps := 10000000) (disch := omega) only [go_sem]
       · (try simp only [Ak, Aj, Ai, Ah, Ag, Af, Ae, Ad]); simp (maxSteps := 10000000) (disch := omega) only [Bb, Bg, Cd, go_sem]
       obtain ⟨hj1, hj2⟩ := hj;by_cases hj0 : j = 0
       · subst hj0;have hjq : D7 S.objs (A2 e) = 0 := by omega
         (try simp only [Ak, Aj, Ai, Ah, Ag, Af, Ae, Ad]); simp (maxSteps := 10000000) (disch := omega) only [Zg, Bb, Bg, Cd, go_sem]
         have hT : (S.objs.map A6).take S.objs.length = S.objs.map A6 := List.take_of_length_le (by simp);have hD : ((S.objs.map A6).drop 0).length = S.objs.length - 0 := by simp
         have hD2 : ((S.objs.map A6).take 0).length = 0 := by rw [List.length_take, List.length_map]; omega
         have hI : (S.objs.map A6).take 0 ++ A6 o :: S.objs.map A6 = (Hj S.objs o).map A6 := by
          unfold Hj; rw [hoi, hjq]; simp [List.map_take, List.map_drop]
         refine G3 ?_
         (try simp only [Ak, Aj, Ai, Ah, Ag, Af, Ae, Ad]); simp (maxSteps := 10000000) (disch := omega) only [List.length_map, D4, hoe, hT, hD, hD2, Ax, n8, n9, go_sem]
         refine ⟨k + 1, by omega, by omega, Eu 70 rfl (An ?_ ?_)⟩
         · (try simp only [Ak, Aj, Ai, Ah, Ag, Af, Ae, Ad]); simp (maxSteps := 10000000) (disch := omega) only [go_sem]
         · (try simp only [Ak, Aj, Ai, Ah, Ag, Af, Ae, Ad]); simp (maxSteps := 10000000) (disch := omega) only [hI, hsn, Bb, Bg, Cd, go_sem]
       · have hjx : j - 1 < S.objs.length := by omega
         have hx3 : S.objs[j - 1]? = some S.objs[j - 1] := List.getElem?_eq_getElem hjx;have he3 : (S.objs.map A6)[j - 1]? = some (A6 S.objs[j - 1]) := by rw [List.getElem?_map, hx3]; rfl
         have hmx := List.getElem_mem hjx;have ejn : ((j : Int) - 1).toNat = j - 1 := by omega
         have hjp : (0 : Int) < j := by omega
         generalize S.objs[j - 1] = x at *
         (try simp only [Ak, Aj, Ai, Ah, Ag, Af, Ae, Ad]); simp (maxSteps := 10000000) (disch := omega) only [Zg, Bb, Bg, Cd, hjp, List.length_map, ejn, he3, C6, go_sem]
         refine Aa (Fj o.id.1 o.id.2 x.id.1 x.id.2) ?_;by_cases hlx : C8 o.id.1 o.id.2 x.id.1 x.id.2 = true
         · (try simp only [Ak, Aj, Ai, Ah, Ag, Af, Ae, Ad]); simp (maxSteps := 10000000) (disch := omega) only [hlx, go_sem]
           refine Al (j - 1) _ _ rfl ⟨?_, by omega⟩ (by omega) ?_ ?_
           · have : ¬ D7 S.objs (A2 e) = j := fun q => Xg (Oh (i := A2 e) (by omega) hx3) (by rw [← hoi]; exact hlx);omega
           · (try simp only [Ak, Aj, Ai, Ah, Ag, Af, Ae, Ad]); simp (maxSteps := 10000000) (disch := omega) only [go_sem]
           · (try simp only [Ak, Aj, Ai, Ah, Ag, Af, Ae, Ad]); simp (maxSteps := 10000000) (disch := omega) only [Bb, Bg, Cd, go_sem]
         · have hlx' : C8 o.id.1 o.id.2 x.id.1 x.id.2 = false := by simpa using hlx
           have hjq : D7 S.objs (A2 e) = j := by
            have h3 : M8 x.id (A2 e) = true := by
             rw [hoi] at hlx;exact Mi hlx (fun q => hnew x hmx q.symm)
            have : ¬ D7 S.objs (A2 e) ≤ j - 1 := fun q => Q2 hso q hx3 h3;omega
           (try simp only [Ak, Aj, Ai, Ah, Ag, Af, Ae, Ad]); simp (maxSteps := 10000000) (disch := omega) only [hlx', go_sem]
           have hT : (S.objs.map A6).take S.objs.length = S.objs.map A6 := List.take_of_length_le (by simp);have hD : ((S.objs.map A6).drop j).length = S.objs.length - j := by simp
           have hD2 : ((S.objs.map A6).take j).length = j := by rw [List.length_take, List.length_map]; omega
           have hI : (S.objs.map A6).take j ++ A6 o :: (S.objs.map A6).drop j = (Hj S.objs o).map A6 := by
            unfold Hj; rw [hoi, hjq]; simp [List.map_take, List.map_drop]
           refine G3 ?_
           (try simp only [Ak, Aj, Ai, Ah, Ag, Af, Ae, Ad]); simp (maxSteps := 10000000) (disch := omega) only [List.length_map, D4, hoe, hT, hD, hD2, Ax, n8, n9, go_sem]
           refine ⟨k + 1, by omega, by omega, Eu 70 rfl (An ?_ ?_)⟩
           · (try simp only [Ak, Aj, Ai, Ah, Ag, Af, Ae, Ad]); simp (maxSteps := 10000000) (disch := omega) only [go_sem]
           · (try simp only [Ak, Aj, Ai, Ah, Ag, Af, Ae, Ad]); simp (maxSteps := 10000000) (disch := omega) only [hI, hsn, Bb, Bg, Cd, go_sem]
   have n1 : ¬ e.kind = 1 := fun h => h12 (.inl h);have n2 : ¬ e.kind = 2 := fun h => h12 (.inr h);obtain ⟨r, hr8, hre⟩ : ∃ r : Nat, r < 8 ∧ e.rep - 1 = r := ⟨(e.rep - 1).toNat, by omega, by omega⟩
   by_cases h8 : e.kind = 8
   · have n9 : ¬ e.kind = 9 := by omega
     by_cases hq : Mk v e.rep < e.seq
     · have hs : Dw l (S, v) e = (Qs S e, Br v e.rep e.seq) := by unfold Dw; rw [if_neg h12, if_pos h8]; exact if_pos hq
       rw [hs] at hsn;have hS : Qs S e = { S with wards := Er S.wards r e.ward } := by unfold Qs; rw [hre]; rfl
       rw [hS] at hsn;have hsp := Wa S hr8 e.ward (.sl false 15 (S.objs.map A6)) (.sl false 15 (S.ents.map Bk));have hq' : ((Mk v e.rep : Nat) : Int) < (e.seq : Int) := by omega
       have hvl := Bh (Br v e.rep e.seq)
       (try simp only [Ak, Aj, Ai, Ah, Ag, Af, Ae, Ad]); simp (maxSteps := 10000000) (disch := omega) only [Tz, hX, List.length_map, he, Dm, hel, Ax, n1, n2, h8, Fv, Jc, go_sem]
       refine Aa (P0 v e.rep) ?_
       (try simp only [Ak, Aj, Ai, Ah, Ag, Af, Ae, Ad]); simp (maxSteps := 10000000) (disch := omega) only [hq', Bq, go_sem]
       refine Aa (Es _ _ _) ?_
       (try simp only [Ak, Aj, Ai, Ah, Ag, Af, Ae, Ad]); simp (maxSteps := 10000000) (disch := omega) only [hvl, Fv, hre, Ab6, Bb, Bg, hsp, Ax, h8, go_sem]
       refine Al (k + 1) _ _ rfl (by omega) (by omega) ?_ ?_
       · (try simp only [Ak, Aj, Ai, Ah, Ag, Af, Ae, Ad]); simp (maxSteps := 10000000) (disch := omega) only [go_sem]
       · (try simp only [Ak, Aj, Ai, Ah, Ag, Af, Ae, Ad]); simp (maxSteps := 10000000) (disch := omega) only [hsn, Cd, go_sem]
         exact ⟨Aay { S with wards := Er S.wards r e.ward }, rfl⟩
     · have hs : Dw l (S, v) e = (S, v) := by unfold Dw; rw [if_neg h12, if_pos h8]; exact if_neg hq
       rw [hs] at hsn;have hq' : ¬ ((Mk v e.rep : Nat) : Int) < (e.seq : Int) := by omega
       (try simp only [Ak, Aj, Ai, Ah, Ag, Af, Ae, Ad]); simp (maxSteps := 10000000) (disch := omega) only [Tz, hX, List.length_map, he, Dm, hel, Ax, n1, n2, h8, Fv, Jc, go_sem]
       refine Aa (P0 v e.rep) ?_
       (try simp only [Ak, Aj, Ai, Ah, Ag, Af, Ae, Ad]); simp (maxSteps := 10000000) (disch := omega) only [hq', Ax, h8, go_sem]
       refine Al (k + 1) _ _ rfl (by omega) (by omega) ?_ ?_
       · (try simp only [Ak, Aj, Ai, Ah, Ag, Af, Ae, Ad]); simp (maxSteps := 10000000) (disch := omega) only [go_sem]
       · (try simp only [Ak, Aj, Ai, Ah, Ag, Af, Ae, Ad]); simp (maxSteps := 10000000) (disch := omega) only [hsn, Cd, Bb, Bg, go_sem]
   by_cases h9 : e.kind = 9
   · have hs : Dw l (S, v) e = (Aeh S e, v) := by unfold Dw; rw [if_neg h12, if_neg h8, if_pos h9]
     rw [hs] at hsn;have hS : Aeh S e = { S with ret := Er S.ret r true } := by unfold Aeh; rw [hre]; rfl
     rw [hS] at hsn;have hsp := Akb S hr8 true (.sl false 15 (S.objs.map A6)) (.sl false 15 (S.ents.map Bk))
     (try simp only [Ak, Aj, Ai, Ah, Ag, Af, Ae, Ad]); simp (maxSteps := 10000000) (disch := omega) only [Tz, hX, List.length_map, he, Dm, hel, Ax, n1, n2, h8, h9, Fv, hre, Bb, Bg, hsp, go_sem]
     refine Al (k + 1) _ _ rfl (by omega) (by omega) ?_ ?_
     · (try simp only [Ak, Aj, Ai, Ah, Ag, Af, Ae, Ad]); simp (maxSteps := 10000000) (disch := omega) only [go_sem]
     · (try simp only [Ak, Aj, Ai, Ah, Ag, Af, Ae, Ad]); simp (maxSteps := 10000000) (disch := omega) only [hsn, Cd, go_sem]
       exact Aay { S with ret := Er S.ret r true }
   · have hs : Dw l (S, v) e = (S, v) := by unfold Dw; rw [if_neg h12, if_neg h8, if_neg h9]
     rw [hs] at hsn
     (try simp only [Ak, Aj, Ai, Ah, Ag, Af, Ae, Ad]); simp (maxSteps := 10000000) (disch := omega) only [Tz, hX, List.length_map, he, Dm, hel, Ax, n1, n2, h8, h9, go_sem]
     refine Al (k + 1) _ _ rfl (by omega) (by omega) ?_ ?_
     · (try simp only [Ak, Aj, Ai, Ah, Ag, Af, Ae, Ad]); simp (maxSteps := 10000000) (disch := omega) only [go_sem]
     · (try simp only [Ak, Aj, Ai, Ah, Ag, Af, Ae, Ad]); simp (maxSteps := 10000000) (disch := omega) only [hsn, Cd, Bb, Bg, go_sem]
 obtain rfl : k = l.length := by omega
 have htk : l.take l.length = l := List.take_length
 (try simp only [Ak, Aj, Ai, Ah, Ag, Af, Ae, Ad]); simp (maxSteps := 10000000) (disch := omega) only [Tz, Cd, Bb, Bg, List.length_map, htk, Bv, go_sem]
set_option maxHeartbeats 16000000 in
theorem Am0 {l : List Evt} {rk : Evt → Nat} {h d} (hE : EvsOk l rk) (hB : ∀ e ∈ l, 1 ≤ e.rep ∧ e.rep ≤ 8) (hg : h 900 = some (.row 21 (l.map Cn))) : FunOk Tryz.prog 6 [.os 900] h d (.agg (Bb (Bv l))) [.upd 900 (.row 21 (l.map Cn))] := by
 refine Ro (g := 900) Aq fn6 (by simp) (by simp [Bd, tn]) (by simp [Bd, tn]) hg rfl (by simp [Blk.ptr, SV.kill]) rfl (fun _ => rfl) fun F => ?_;obtain ⟨f, hf⟩ : ∃ f : Bool, f = false := ⟨_, rfl⟩
 have hn := hE.len;have hevs : ∀ e ∈ l, ev e := fun e he => (hE.ev e he).1
 (try simp only [Ak, Aj, Ai, Ah, Ag, Af, Ae, Ad]); simp (maxSteps := 10000000) (disch := omega) only [ir6, Blk.ptr, go_sem]
 refine Aa (Aku (l := l) rfl rfl (by omega)) ?_
 (try simp only [Ak, Aj, Ai, Ah, Ag, Af, Ae, Ad]); simp (maxSteps := 10000000) (disch := omega) only [go_sem]
 refine Aa (Zt (l := l) rfl rfl (by omega) hevs) ?_
 (try simp only [Ak, Aj, Ai, Ah, Ag, Af, Ae, Ad]); simp (maxSteps := 10000000) (disch := omega) only [go_sem]
 refine A1 Aq (Tx f l) (fun k => k ≤ l.length) (fun k => l.length - k) 0 (by simp) (An ?_ ?_) fun k hk => ?_
 · (try simp only [Ak, Aj, Ai, Ah, Ag, Af, Ae, Ad]); simp (maxSteps := 10000000) (disch := omega) only [go_sem]
 · (try simp only [Ak, Aj, Ai, Ah, Ag, Af, Ae, Ad]); simp (maxSteps := 10000000) (disch := omega) only [Hp, List.take_zero, List.foldl_nil, Cd, go_sem]
   exact ⟨Ake (s := ⟨Dg l, [], Eh l l, fun _ => 0, fun _ => false⟩) (.inl rfl) (.inr rfl) trivial (.refl _), rfl⟩
 by_cases hlt : k < l.length
 · have hx : l[k]? = some l[k] := List.getElem?_eq_getElem hlt;have he : (l.map Cn)[k]? = some (Cn l[k]) := by rw [List.getElem?_map, hx]; rfl
   have ht := Dt hx;have hsn := Pa l (l.take k) l[k];have hlk : (l.take k).length ≤ 400 := by simp; omega
   have hnd := hE.nod.take (k + 1);rw [← ht] at hsn;rw [ht] at hnd;have hrep := hB _ (List.getElem_mem hlt);generalize l[k] = e at *;obtain ⟨hso, hol, hom⟩ := R3 (l := l) _ (l.take k) rfl (hE.nod.take k);have hel := Ac e;generalize hX : Hp l (l.take k) = X at *;obtain ⟨S, v⟩ := X;simp only at hso hol hom;by_cases h12 : e.kind = 1 ∨ e.kind = 2
   · have hs : Dw l (S, v) e = ({ S with objs := Hj S.objs (Ey l l e) }, v) := by unfold Dw; rw [if_pos h12]
     rw [hs] at hsn;have n8 : ¬ e.kind = 8 := by omega
     have n9 : ¬ e.kind = 9 := by omega
     have hoe := C5 (Ey l l e);have hoi := Jz l e l;have hnew : ∀ x ∈ S.objs, x.id ≠ A2 e := fun x hx => by
      obtain ⟨f, hf, _, rfl⟩ := (hom x).1 hx;rw [Jz];unfold NodE at hnd;rw [List.map_append, List.nodup_append] at hnd;exact hnd.2.2 (A2 f) (List.mem_map_of_mem hf) (A2 e) (by simp)
     rcases h12 with h1 | h2
     · (try simp only [Ak, Aj, Ai, Ah, Ag, Af, Ae, Ad]); simp (maxSteps := 10000000) (disch := omega) only [Tx, hX, List.length_map, he, Dm, hel, Ax, h1, go_sem]
       refine Aa (Zq e hE rfl) ?_
       (try simp only [Ak, Aj, Ai, Ah, Ag, Af, Ae, Ad]); simp (maxSteps := 10000000) (disch := omega) only [hoe, Bb, Bg, List.length_map, Cd, go_sem]
       generalize hO : Ey l l e = o at *;have hp0 := Q1 S.objs (A2 e);refine A1 Aq (Zf f l k e S v o) (fun j => D7 S.objs (A2 e) ≤ j ∧ j ≤ S.objs.length) (fun j => j) S.objs.length ⟨hp0, Nat.le_refl _⟩ (An ?_ ?_) fun j hj => ?_
       · (try simp only [Ak, Aj, Ai, Ah, Ag, Af, Ae, Ad]); simp (maxSteps := 10000000) (disch := omega) only [go_sem]
       · (try simp only [Ak, Aj, Ai, Ah, Ag, Af, Ae, Ad]); simp (maxSteps := 10000000) (disch := omega) only [Bb, Bg, Cd, go_sem]
       obtain ⟨hj1, hj2⟩ := hj;by_cases hj0 : j = 0
       · subst hj0;have hjq : D7 S.objs (A2 e) = 0 := by omega
         (try simp only [Ak, Aj, Ai, Ah, Ag, Af, Ae, Ad]); simp (maxSteps := 10000000) (disch := omega) only [Zf, Bb, Bg, Cd, go_sem]
         have hT : (S.objs.map A6).take S.objs.length = S.objs.map A6 := List.take_of_length_le (by simp);have hD : ((S.objs.map A6).drop 0).length = S.objs.length - 0 := by simp
         have hD2 : ((S.objs.map A6).take 0).length = 0 := by rw [List.length_take, List.length_map]; omega
         have hI : (S.objs.map A6).take 0 ++ A6 o :: S.objs.map A6 = (Hj S.objs o).map A6 := by
          unfold Hj; rw [hoi, hjq]; simp [List.map_take, List.map_drop]
         refine G3 ?_
         (try simp only [Ak, Aj, Ai, Ah, Ag, Af, Ae, Ad]); simp (maxSteps := 10000000) (disch := omega) only [List.length_map, D4, hoe, hT, hD, hD2, Ax, n8, n9, go_sem]
         refine ⟨k + 1, by omega, by omega, Eu 70 rfl (An ?_ ?_)⟩
         · (try simp only [Ak, Aj, Ai, Ah, Ag, Af, Ae, Ad]); simp (maxSteps := 10000000) (disch := omega) only [go_sem]
         · (try simp only [Ak, Aj, Ai, Ah, Ag, Af, Ae, Ad]); simp (maxSteps := 10000000) (disch := omega) only [hI, hsn, Bb, Bg, Cd, go_sem]
       · have hjx : j - 1 < S.objs.length := by omega
         have hx3 : S.objs[j - 1]? = some S.objs[j - 1] := List.getElem?_eq_getElem hjx;have he3 : (S.objs.map A6)[j - 1]? = some (A6 S.objs[j - 1]) := by rw [List.getElem?_map, hx3]; rfl
         have hmx := List.getElem_mem hjx;have ejn : ((j : Int) - 1).toNat = j - 1 := by omega
         have hjp : (0 : Int) < j := by omega
         generalize S.objs[j - 1] = x at *
         (try simp only [Ak, Aj, Ai, Ah, Ag, Af, Ae, Ad]); simp (maxSteps := 10000000) (disch := omega) only [Zf, Bb, Bg, Cd, hjp, List.length_map, ejn, he3, C6, go_sem]
         refine Aa (Fj o.id.1 o.id.2 x.id.1 x.id.2) ?_;by_cases hlx : C8 o.id.1 o.id.2 x.id.1 x.id.2 = true
         · (try simp only [Ak, Aj, Ai, Ah, Ag, Af, Ae, Ad]); simp (maxSteps := 10000000) (disch := omega) only [hlx, go_sem]
           refine Al (j - 1) _ _ rfl ⟨?_, by omega⟩ (by omega) ?_ ?_
           · have : ¬ D7 S.objs (A2 e) = j := fun q => Xg (Oh (i := A2 e) (by omega) hx3) (by rw [← hoi]; exact hlx);omega
           · (try simp only [Ak, Aj, Ai, Ah, Ag, Af, Ae, Ad]); simp (maxSteps := 10000000) (disch := omega) only [go_sem]
           · (try simp only [Ak, Aj, Ai, Ah, Ag, Af, Ae, Ad]); simp (maxSteps := 10000000) (disch := omega) only [Bb, Bg, Cd, go_sem]
         · have hlx' : C8 o.id.1 o.id.2 x.id.1 x.id.2 = false := by simpa using hlx
           have hjq : D7 S.objs (A2 e) = j := by
            have h3 : M8 x.id (A2 e) = true := by
             rw [hoi] at hlx;exact Mi hlx (fun q => hnew x hmx q.symm)
            have : ¬ D7 S.objs (A2 e) ≤ j - 1 := fun q => Q2 hso q hx3 h3;omega
           (try simp only [Ak, Aj, Ai, Ah, Ag, Af, Ae, Ad]); simp (maxSteps := 10000000) (disch := omega) only [hlx', go_sem]
           have hT : (S.objs.map A6).take S.objs.length = S.objs.map A6 := List.take_of_length_le (by simp);have hD : ((S.objs.map A6).drop j).length = S.objs.length - j := by simp
           have hD2 : ((S.objs.map A6).take j).length = j := by rw [List.length_take, List.length_map]; omega
           have hI : (S.objs.map A6).take j ++ A6 o :: (S.objs.map A6).drop j = (Hj S.objs o).map A6 := by
            unfold Hj; rw [hoi, hjq]; simp [List.map_take, List.map_drop]
           refine G3 ?_
           (try simp only [Ak, Aj, Ai, Ah, Ag, Af, Ae, Ad]); simp (maxSteps := 10000000) (disch := omega) only [List.length_map, D4, hoe, hT, hD, hD2, Ax, n8, n9, go_sem]
           refine ⟨k + 1, by omega, by omega, Eu 70 rfl (An ?_ ?_)⟩
           · (try simp only [Ak, Aj, Ai, Ah, Ag, Af, Ae, Ad]); simp (maxSteps := 10000000) (disch := omega) only [go_sem]
           · (try simp only [Ak, Aj, Ai, Ah, Ag, Af, Ae, Ad]); simp (maxSteps := 10000000) (disch := omega) only [hI, hsn, Bb, Bg, Cd, go_sem]
     · have n1 : ¬ e.kind = 1 := by omega
       (try simp only [Ak, Aj, Ai, Ah, Ag, Af, Ae, Ad]); simp (maxSteps := 10000000) (disch := omega) only [Tx, hX, List.length_map, he, Dm, hel, Ax, n1, h2, go_sem]
       refine Aa (Zq e hE rfl) ?_
       (try simp only [Ak, Aj, Ai, Ah, Ag, Af, Ae, Ad]); simp (maxSteps := 10000000) (disch := omega) only [hoe, Bb, Bg, List.length_map, Cd, go_sem]
       generalize hO : Ey l l e = o at *;have hp0 := Q1 S.objs (A2 e);refine A1 Aq (Zf f l k e S v o) (fun j => D7 S.objs (A2 e) ≤ j ∧ j ≤ S.objs.length) (fun j => j) S.objs.length ⟨hp0, Nat.le_refl _⟩ (An ?_ ?_) fun j hj => ?_
       · (try simp only [Ak, Aj, Ai, Ah, Ag, Af, Ae, Ad]); simp (maxSteps := 10000000) (disch := omega) only [go_sem]
       · (try simp only [Ak, Aj, Ai, Ah, Ag, Af, Ae, Ad]); simp (maxSteps := 10000000) (disch := omega) only [Bb, Bg, Cd, go_sem]
       obtain ⟨hj1, hj2⟩ := hj;by_cases hj0 : j = 0
       · subst hj0;have hjq : D7 S.objs (A2 e) = 0 := by omega
         (try simp only [Ak, Aj, Ai, Ah, Ag, Af, Ae, Ad]); simp (maxSteps := 10000000) (disch := omega) only [Zf, Bb, Bg, Cd, go_sem]
         have hT : (S.objs.map A6).take S.objs.length = S.objs.map A6 := List.take_of_length_le (by simp);have hD : ((S.objs.map A6).drop 0).length = S.objs.length - 0 := by simp
         have hD2 : ((S.objs.map A6).take 0).length = 0 := by rw [List.length_take, List.length_map]; omega
         have hI : (S.objs.map A6).take 0 ++ A6 o :: S.objs.map A6 = (Hj S.objs o).map A6 := by
          unfold Hj; rw [hoi, hjq]; simp [List.map_take, List.map_drop]
         refine G3 ?_
         (try simp only [Ak, Aj, Ai, Ah, Ag, Af, Ae, Ad]); simp (maxSteps := 10000000) (disch := omega) only [List.length_map, D4, hoe, hT, hD, hD2, Ax, n8, n9, go_sem]
         refine ⟨k + 1, by omega, by omega, Eu 70 rfl (An ?_ ?_)⟩
         · (try simp only [Ak, Aj, Ai, Ah, Ag, Af, Ae, Ad]); simp (maxSteps := 10000000) (disch := omega) only [go_sem]
         · (try simp only [Ak, Aj, Ai, Ah, Ag, Af, Ae, Ad]); simp (maxSteps := 10000000) (disch := omega) only [hI, hsn, Bb, Bg, Cd, go_sem]
       · have hjx : j - 1 < S.objs.length := by omega
         have hx3 : S.objs[j - 1]? = some S.objs[j - 1] := List.getElem?_eq_getElem hjx;have he3 : (S.objs.map A6)[j - 1]? = some (A6 S.objs[j - 1]) := by rw [List.getElem?_map, hx3]; rfl
         have hmx := List.getElem_mem hjx;have ejn : ((j : Int) - 1).toNat = j - 1 := by omega
         have hjp : (0 : Int) < j := by omega
         generalize S.objs[j - 1] = x at *
         (try simp only [Ak, Aj, Ai, Ah, Ag, Af, Ae, Ad]); simp (maxSteps := 10000000) (disch := omega) only [Zf, Bb, Bg, Cd, hjp, List.length_map, ejn, he3, C6, go_sem]
         refine Aa (Fj o.id.1 o.id.2 x.id.1 x.id.2) ?_;by_cases hlx : C8 o.id.1 o.id.2 x.id.1 x.id.2 = true
         · (try simp only [Ak, Aj, Ai, Ah, Ag, Af, Ae, Ad]); simp (maxSteps := 10000000) (disch := omega) only [hlx, go_sem]
           refine Al (j - 1) _ _ rfl ⟨?_, by omega⟩ (by omega) ?_ ?_
           · have : ¬ D7 S.objs (A2 e) = j := fun q => Xg (Oh (i := A2 e) (by omega) hx3) (by rw [← hoi]; exact hlx);omega
           · (try simp only [Ak, Aj, Ai, Ah, Ag, Af, Ae, Ad]); simp (maxSteps := 10000000) (disch := omega) only [go_sem]
           · (try simp only [Ak, Aj, Ai, Ah, Ag, Af, Ae, Ad]); simp (maxSteps := 10000000) (disch := omega) only [Bb, Bg, Cd, go_sem]
         · have hlx' : C8 o.id.1 o.id.2 x.id.1 x.id.2 = false := by simpa using hlx
           have hjq : D7 S.objs (A2 e) = j := by
            have h3 : M8 x.id (A2 e) = true := by
             rw [hoi] at hlx;exact Mi hlx (fun q => hnew x hmx q.symm)
            have : ¬ D7 S.objs (A2 e) ≤ j - 1 := fun q => Q2 hso q hx3 h3;omega
           (try simp only [Ak, Aj, Ai, Ah, Ag, Af, Ae, Ad]); simp (maxSteps := 10000000) (disch := omega) only [hlx', go_sem]
           have hT : (S.objs.map A6).take S.objs.length = S.objs.map A6 := List.take_of_length_le (by simp);have hD : ((S.objs.map A6).drop j).length = S.objs.length - j := by simp
           have hD2 : ((S.objs.map A6).take j).length = j := by rw [List.length_take, List.length_map]; omega
           have hI : (S.objs.map A6).take j ++ A6 o :: (S.objs.map A6).drop j = (Hj S.objs o).map A6 := by
            unfold Hj; rw [hoi, hjq]; simp [List.map_take, List.map_drop]
           refine G3 ?_
           (try simp only [Ak, Aj, Ai, Ah, Ag, Af, Ae, Ad]); simp (maxSteps := 10000000) (disch := omega) only [List.length_map, D4, hoe, hT, hD, hD2, Ax, n8, n9, go_sem]
           refine ⟨k + 1, by omega, by omega, Eu 70 rfl (An ?_ ?_)⟩
           · (try simp only [Ak, Aj, Ai, Ah, Ag, Af, Ae, Ad]); simp (maxSteps := 10000000) (disch := omega) only [go_sem]
           · (try simp only [Ak, Aj, Ai, Ah, Ag, Af, Ae, Ad]); simp (maxSteps := 10000000) (disch := omega) only [hI, hsn, Bb, Bg, Cd, go_sem]
   have n1 : ¬ e.kind = 1 := fun h => h12 (.inl h);have n2 : ¬ e.kind = 2 := fun h => h12 (.inr h);obtain ⟨r, hr8, hre⟩ : ∃ r : Nat, r < 8 ∧ e.rep - 1 = r := ⟨(e.rep - 1).toNat, by omega, by omega⟩
   by_cases h8 : e.kind = 8
   · have n9 : ¬ e.kind = 9 := by omega
     by_cases hq : Mk v e.rep < e.seq
     · have hs : Dw l (S, v) e = (Qs S e, Br v e.rep e.seq) := by unfold Dw; rw [if_neg h12, if_pos h8]; exact if_pos hq
       rw [hs] at hsn;have hS : Qs S e = { S with wards := Er S.wards r e.ward } := by unfold Qs; rw [hre]; rfl
       rw [hS] at hsn;have hsp := Wa S hr8 e.ward (.sl false 15 (S.objs.map A6)) (.sl false 15 (S.ents.map Bk));have hq' : ((Mk v e.rep : Nat) : Int) < (e.seq : Int) := by omega
       have hvl := Bh (Br v e.rep e.seq)
       (try simp only [Ak, Aj, Ai, Ah, Ag, Af, Ae, Ad]); simp (maxSteps := 10000000) (disch := omega) only [Tx, hX, List.length_map, he, Dm, hel, Ax, n1, n2, h8, Fv, Jc, go_sem]
       refine Aa (P0 v e.rep) ?_
       (try simp only [Ak, Aj, Ai, Ah, Ag, Af, Ae, Ad]); simp (maxSteps := 10000000) (disch := omega) only [hq', Bq, go_sem]
       refine Aa (Es _ _ _) ?_
       (try simp only [Ak, Aj, Ai, Ah, Ag, Af, Ae, Ad]); simp (maxSteps := 10000000) (disch := omega) only [hvl, Fv, hre, Ab6, Bb, Bg, hsp, Ax, h8, go_sem]
       refine Al (k + 1) _ _ rfl (by omega) (by omega) ?_ ?_
       · (try simp only [Ak, Aj, Ai, Ah, Ag, Af, Ae, Ad]); simp (maxSteps := 10000000) (disch := omega) only [go_sem]
       · (try simp only [Ak, Aj, Ai, Ah, Ag, Af, Ae, Ad]); simp (maxSteps := 10000000) (disch := omega) only [hsn, Cd, go_sem]
         exact ⟨Aay { S with wards := Er S.wards r e.ward }, rfl⟩
     · have hs : Dw l (S, v) e = (S, v) := by unfold Dw; rw [if_neg h12, if_pos h8]; exact if_neg hq
       rw [hs] at hsn;have hq' : ¬ ((Mk v e.rep : Nat) : Int) < (e.seq : Int) := by omega
       (try simp only [Ak, Aj, Ai, Ah, Ag, Af, Ae, Ad]); simp (maxSteps := 10000000) (disch := omega) only [Tx, hX, List.length_map, he, Dm, hel, Ax, n1, n2, h8, Fv, Jc, go_sem]
       refine Aa (P0 v e.rep) ?_
       (try simp only [Ak, Aj, Ai, Ah, Ag, Af, Ae, Ad]); simp (maxSteps := 10000000) (disch := omega) only [hq', Ax, h8, go_sem]
       refine Al (k + 1) _ _ rfl (by omega) (by omega) ?_ ?_
       · (try simp only [Ak, Aj, Ai, Ah, Ag, Af, Ae, Ad]); simp (maxSteps := 10000000) (disch := omega) only [go_sem]
       · (try simp only [Ak, Aj, Ai, Ah, Ag, Af, Ae, Ad]); simp (maxSteps := 10000000) (disch := omega) only [hsn, Cd, Bb, Bg, go_sem]
   by_cases h9 : e.kind = 9
   · have hs : Dw l (S, v) e = (Aeh S e, v) := by unfold Dw; rw [if_neg h12, if_neg h8, if_pos h9]
     rw [hs] at hsn;have hS : Aeh S e = { S with ret := Er S.ret r true } := by unfold Aeh; rw [hre]; rfl
     rw [hS] at hsn;have hsp := Akb S hr8 true (.sl false 15 (S.objs.map A6)) (.sl false 15 (S.ents.map Bk))
     (try simp only [Ak, Aj, Ai, Ah, Ag, Af, Ae, Ad]); simp (maxSteps := 10000000) (disch := omega) only [Tx, hX, List.length_map, he, Dm, hel, Ax, n1, n2, h8, h9, Fv, hre, Bb, Bg, hsp, go_sem]
     refine Al (k + 1) _ _ rfl (by omega) (by omega) ?_ ?_
     · (try simp only [Ak, Aj, Ai, Ah, Ag, Af, Ae, Ad]); simp (maxSteps := 10000000) (disch := omega) only [go_sem]
     · (try simp only [Ak, Aj, Ai, Ah, Ag, Af, Ae, Ad]); simp (maxSteps := 10000000) (disch := omega) only [hsn, Cd, go_sem]
       exact Aay { S with ret := Er S.ret r true }
   · have hs : Dw l (S, v) e = (S, v) := by unfold Dw; rw [if_neg h12, if_neg h8, if_neg h9]
     rw [hs] at hsn
     (try simp only [Ak, Aj, Ai, Ah, Ag, Af, Ae, Ad]); simp (maxSteps := 10000000) (disch := omega) only [Tx, hX, List.length_map, he, Dm, hel, Ax, n1, n2, h8, h9, go_sem]
     refine Al (k + 1) _ _ rfl (by omega) (by omega) ?_ ?_
     · (try simp only [Ak, Aj, Ai, Ah, Ag, Af, Ae, Ad]); simp (maxSteps := 10000000) (disch := omega) only [go_sem]
     · (try simp only [Ak, Aj, Ai, Ah, Ag, Af, Ae, Ad]); simp (maxSteps := 10000000) (disch := omega) only [hsn, Cd, Bb, Bg, go_sem]
 obtain rfl : k = l.length := by omega
 have htk : l.take l.length = l := List.take_length
 (try simp only [Ak, Aj, Ai, Ah, Ag, Af, Ae, Ad]); simp (maxSteps := 10000000) (disch := omega) only [Tx, Cd, Bb, Bg, List.length_map, htk, Bv, go_sem]
 refine Ld ?_
 (try simp only [Ak, Aj, Ai, Ah, Ag, Af, Ae, Ad]); simp (maxSteps := 10000000) (disch := omega) only [go_sem]
theorem Ar5 {l : List Evt} {rk : Evt → Nat} {h d g} (hE : EvsOk l rk) (hB : ∀ e ∈ l, 1 ≤ e.rep ∧ e.rep ≤ 8) (hg : h g = some (.row 21 (l.map Cn))) : FunOk Tryz.prog 6 [.os g] h d (.agg (Bb (Bv l))) [] :=
 FunOk.ioRow (fun h d hg => Am0 hE hB hg) rfl rfl hg
theorem Ah8 {l : List Obj} (hs : H7 l) (i : Ca) : I7 l i = l.find? fun o => decide (o.id = i) := by
 cases h : I7 l i with
 | some o =>
   obtain ⟨h1, h2⟩ := L5 h;symm;obtain ⟨hlt, hg⟩ := List.getElem?_eq_some_iff.1 h1;rw [List.find?_eq_some_iff_getElem];refine ⟨by simpa using h2, D7 l i, hlt, hg, fun j hj => ?_⟩;have := Oh hj (List.getElem?_eq_getElem (by omega));simp only [Bool.not_eq_true', decide_eq_false_iff_not];intro q;rw [q] at this;exact Ow this
 | none =>
   symm;rw [List.find?_eq_none];intro x hx q;have q : x.id = i := by simpa using q
   obtain ⟨j, hj⟩ := List.mem_iff_getElem?.1 hx;have h1 : ¬ j < D7 l i := fun hq => by
    have := Oh hq hj;rw [q] at this; exact Ow this
   by_cases e : j = D7 l i
   · unfold I7 at h;rw [← e, hj] at h;simp only at h;rw [if_pos q] at h; cases h
   · have hlt := (List.getElem?_eq_some_iff.1 hj).1;have hp : D7 l i < l.length := by omega
     have hy : l[D7 l i]? = some l[D7 l i] := List.getElem?_eq_getElem hp;have h3 := Ami hs hy hj (by omega);rw [q] at h3;exact Q2 hs (Nat.le_refl _) hy h3
def Aa4 (s : St) (i : Ca) (z : SV) (k : Nat) : FS := mk [(6, .pv (.i .i64 k)), (2, .p 2 0), (3, .p 3 0), (4, .p 4 0)] [(2, some (.var (.agg (Bb s)))), (3, some (.var (.vec 2 [.i .i64 i.1, .i .u32 i.2]))), (4, some (.var z))]
def Am2 : Obj := ⟨(0, 0), false, (0, 0), [], fun _ => 0, []⟩
theorem Anr : Imp (.agg [.pv (.i .i64 0), .pv (.i .u32 0), .pv (.b false), .pv (.i .i64 0), .pv (.i .u32 0), .pv (.s []), .vec 8 (vE fun _ => 0), .pv (.sl true 0 [])]) (.vec 15 (A6 Am2)) :=
 fun V ρ v h => Ans (Ax7 Am2 (.inl rfl)) V ρ v (Mh (n := 15) (cs := Gm true 0 Am2) (by rfl) (F4 _ _ _) V ρ v h)
set_option maxHeartbeats 1000000 in
theorem Aks {s : St} (i : Ca) (hs : H7 s.objs) {h d} (hn : s.objs.length ≤ 1000) : FunOk Tryz.prog 55 [.agg (Bb s), .vec 2 [.i .i64 i.1, .i .u32 i.2]] h d (.tup [.vec 15 (A6 ((I7 s.objs i).getD Am2)), .pv (.b (I7 s.objs i).isSome)]) [] := by
 refine Iz Aq fn55 (by simp) rfl rfl fun F => ?_
 (try simp only [Ak, Aj, Ai, Ah, Ag, Af, Ae, Ad]); simp (maxSteps := 10000000) (disch := omega) only [ir55, Bb, Bg, go_sem]
 refine A1 Aq (Aa4 s i Ft) (fun k => k ≤ s.objs.length ∧ ∀ j x, j < k → s.objs[j]? = some x → x.id ≠ i) (fun k => s.objs.length - k) 0 ⟨by simp, fun j x hj => absurd hj (Nat.not_lt_zero j)⟩ (An ?_ ?_) fun k hk => ?_
 · (try simp only [Ak, Aj, Ai, Ah, Ag, Af, Ae, Ad]); simp (maxSteps := 10000000) (disch := omega) only [go_sem]
 · (try simp only [Ak, Aj, Ai, Ah, Ag, Af, Ae, Ad]); simp (maxSteps := 10000000) (disch := omega) only [Ft, Bb, Bg, go_sem]
 obtain ⟨hk1, hk2⟩ := hk;rw [Ah8 hs];by_cases hlt : k < s.objs.length
 · have hx : s.objs[k]? = some s.objs[k] := List.getElem?_eq_getElem hlt;have he : (s.objs.map A6)[k]? = some (A6 s.objs[k]) := by rw [List.getElem?_map, hx]; rfl
   have hgk : s.objs[k] = s.objs[k] := rfl;generalize hO : s.objs[k] = o at *;have hol := C5 o;by_cases hb : o.id = i
   · have hp := Gs hb;have hf : s.objs.find? (fun o => decide (o.id = i)) = some o := by
      rw [List.find?_eq_some_iff_getElem];refine ⟨by simpa using hb, k, hlt, hO, fun j hj => ?_⟩;simpa using hk2 j _ hj (List.getElem?_eq_getElem (by omega))
     rw [hf]
     (try simp only [Ak, Aj, Ai, Ah, Ag, Af, Ae, Ad]); simp (maxSteps := 10000000) (disch := omega) only [Aa4, Ft, Bb, Bg, List.length_map, he, C6, Bm, Bs, hp, D4, hol, go_sem]
     refine Ld ?_
     (try simp only [Ak, Aj, Ai, Ah, Ag, Af, Ae, Ad]); simp (maxSteps := 10000000) (disch := omega) only [go_sem]
     exact Imp.refl _
   · have hp := Gt hb
     (try simp only [Ak, Aj, Ai, Ah, Ag, Af, Ae, Ad]); simp (maxSteps := 10000000) (disch := omega) only [Aa4, Ft, Bb, Bg, List.length_map, he, C6, Bm, Bs, hp, go_sem]
     refine Al (k + 1) _ _ rfl ⟨by omega, fun j x hj hjx => ?_⟩ (by omega) ?_ ?_
     · by_cases ej : j = k
       · subst ej; rw [hx] at hjx; cases hjx; exact hb
       · exact hk2 j x (by omega) hjx
     · (try simp only [Ak, Aj, Ai, Ah, Ag, Af, Ae, Ad]); simp (maxSteps := 10000000) (disch := omega) only [go_sem]
     · (try simp only [Ak, Aj, Ai, Ah, Ag, Af, Ae, Ad]); simp (maxSteps := 10000000) (disch := omega) only [Ft, Bb, Bg, go_sem]
 · obtain rfl : k = s.objs.length := by omega
   have hf : s.objs.find? (fun o => decide (o.id = i)) = none := by
    rw [List.find?_eq_none];intro x hx;obtain ⟨j, hj⟩ := List.mem_iff_getElem?.1 hx;simpa using hk2 j x (List.getElem?_eq_some_iff.1 hj).1 hj
   rw [hf]
   (try simp only [Ak, Aj, Ai, Ah, Ag, Af, Ae, Ad]); simp (maxSteps := 10000000) (disch := omega) only [Aa4, Ft, Bb, Bg, List.length_map, go_sem]
   refine Ld ?_
   (try simp only [Ak, Aj, Ai, Ah, Ag, Af, Ae, Ad]); simp (maxSteps := 10000000) (disch := omega) only [go_sem]
   exact Aj5 Anr
theorem Ax3 {s : St} (i : Ca) (hs : H7 s.objs) {h d} (hn : s.objs.length ≤ 1000) : FunOk Tryz.prog 54 [.agg (Bb s), .vec 2 [.i .i64 i.1, .i .u32 i.2]] h d (.pv (.i .i64 (Aum s.objs i))) [] := by
 refine A7 Aq fn54 (by simp) rfl rfl fun F => ?_;have hd := Ai6 (l := s.objs) i;have ho := Aks (s := s) i hs hn (h := fun _ => none) (d := 0);rw [show Bb s = [.vec 8 (vE s.known), .pv (.sl false 15 (s.objs.map A6)), .pv (.sl false 15 (s.ents.map Bk)), .vec 8 (iE s.wards), .vec 8 (wE s.ret)] from rfl] at ho
 (try simp only [Ak, Aj, Ai, Ah, Ag, Af, Ae, Ad]); simp (maxSteps := 10000000) (disch := omega) only [ir54, Bb, Bg, go_sem]
 refine Aa (Arr _ _) ?_;by_cases h0 : i = (0, 0)
 · have hz : Ce i.1 i.2 = true := decide_eq_true (Apn h0);rw [if_pos h0] at hd
   (try simp only [Ak, Aj, Ai, Ah, Ag, Af, Ae, Ad]); simp (maxSteps := 10000000) (disch := omega) only [hz, hd, go_sem]
 · have hz : Ce i.1 i.2 = false := decide_eq_false fun e => h0 (Prod.ext e.1 e.2);rw [if_neg h0] at hd
   (try simp only [Ak, Aj, Ai, Ah, Ag, Af, Ae, Ad]); simp (maxSteps := 10000000) (disch := omega) only [hz, go_sem]
   refine Aa (ho.at (by simp [Bd, tn])) ?_;cases hA : I7 s.objs i with
   | none =>
     rw [hA] at hd;simp only at hd;have hol := C5 Am2
     (try simp only [Ak, Aj, Ai, Ah, Ag, Af, Ae, Ad]); simp (maxSteps := 10000000) (disch := omega) only [Option.isSome_none, hol, hd, go_sem]
   | some o =>
     rw [hA] at hd;simp only at hd;have hol := C5 o;by_cases hdd : o.dir = true
     · rw [if_pos hdd] at hd
       (try simp only [Ak, Aj, Ai, Ah, Ag, Af, Ae, Ad]); simp (maxSteps := 10000000) (disch := omega) only [Option.isSome_some, Option.getD_some, hol, Db, hdd, hd, go_sem]
     · have hdd' : o.dir = false := by simpa using hdd
       rw [if_neg hdd] at hd
       (try simp only [Ak, Aj, Ai, Ah, Ag, Af, Ae, Ad]); simp (maxSteps := 10000000) (disch := omega) only [Option.isSome_some, Option.getD_some, hol, Db, hdd', hd, go_sem]
theorem Agb {e : Evt} (h : Cc e = true) (hk : e.kind = 3 ∨ e.kind = 4 ∨ e.kind = 5) : ∀ b ∈ e.base.l, Cm e.dep b.1 b.2 = true := by
 unfold Cc at h;simp only [Bool.and_eq_true, decide_eq_true_eq] at h;have hK := h.2.2.2;have key : ∀ m, Gv e.base.l m e.dep = true → ∀ b ∈ e.base.l, Cm e.dep b.1 b.2 = true := fun m hm b hb => by
  unfold Gv Gj at hm;simp only [Bool.and_eq_true, decide_eq_true_eq] at hm;obtain ⟨j, hj⟩ := List.mem_iff_getElem?.1 hb;obtain ⟨hlt, hg⟩ := List.getElem?_eq_some_iff.1 hj;have := (hm.2 j hlt).1;rw [hg] at this; exact this
 rcases hk with h3 | h3 | h3
 · rw [Re h3] at hK;simp only [Bool.and_eq_true] at hK;exact key _ hK.2.1
 · rw [U8 h3] at hK;simp only [Bool.and_eq_true] at hK;exact key _ hK.2.1
 · rw [Rd h3] at hK;simp only [Bool.and_eq_true] at hK;exact key _ hK.2.1
theorem Afl {a : Vc} {r : Int} {q : Nat} (h : Cm a r q = true) : 1 ≤ q ∧ 1 ≤ r ∧ r ≤ 8 ∧ q ≤ a (r - 1).toNat := by
 unfold Cm Mk at h;simp only [decide_eq_true_eq] at h;by_cases hr : 1 ≤ r ∧ r ≤ 8
 · rw [if_pos hr] at h; exact ⟨h.1, hr.1, hr.2, h.2⟩
 · rw [if_neg hr] at h; omega
def Aqe (s : St) (e : Evt) (o : Obj) (k : Nat) : FS := mk [(7, .pv (.i .i64 k)), (2, .p 2 0), (3, .p 3 0), (5, .p 5 0), (4, .pv (.i .i64 0))] [(2, some (.var (.agg (Bb s)))), (3, some (.var (.vec 21 (Cn e)))), (5, some (.var (.vec 15 (A6 o))))]
set_option maxHeartbeats 8000000 in
theorem A8k {s : St} {e : Evt} (hs : StIn s) (he : ev e) (hdep : ∀ i, i < 8 → e.dep i < 4294967296) {h d} : FunOk Tryz.prog 20 [.agg (Bb s), .vec 21 (Cn e)] h d (.pv (.i .i64 (Pe s e))) [] := by
 refine A7 Aq fn20 (by simp) rfl rfl fun F => ?_;have a1 := hs.fine.on;have hS : Bb s = [.vec 8 (vE s.known), .pv (.sl false 15 (s.objs.map A6)), .pv (.sl false 15 (s.ents.map Bk)), .vec 8 (iE s.wards), .vec 8 (wE s.ret)] := rfl;have hO := Aks (s := s) (Cv e) hs.so (by omega) (h := fun _ => none) (d := 0);have hD := Ax3 (s := s) (Alm e) hs.so (by omega) (h := fun _ => none) (d := 0);rw [hS] at hO hD
 (try simp only [Ak, Aj, Ai, Ah, Ag, Af, Ae, Ad]); simp (maxSteps := 10000000) (disch := omega) only [ir20, Bb, Bg, Dm, go_sem]
 refine Aa (Ar4 e he hdep) ?_;by_cases hc' : Cc e = false
 · have hw : Pe s e = 7 := if_pos hc'
   (try simp only [Ak, Aj, Ai, Ah, Ag, Af, Ae, Ad]); simp (maxSteps := 10000000) (disch := omega) only [hc', hw, go_sem]
 have hc : Cc e = true := by simpa using hc'
 have hb := Hl hc;obtain ⟨b1, b2, b3, b4, b5, b6, b7⟩ := hb
 (try simp only [Ak, Aj, Ai, Ah, Ag, Af, Ae, Ad]); simp (maxSteps := 10000000) (disch := omega) only [hc, Bq, Jb, go_sem]
 refine Aa (Pz _ _ _) ?_;by_cases h1 : Cm s.known e.rep e.seq = true
 · have hw : Pe s e = 11 := by unfold Pe; rw [if_neg hc', if_pos h1]
   (try simp only [Ak, Aj, Ai, Ah, Ag, Af, Ae, Ad]); simp (maxSteps := 10000000) (disch := omega) only [h1, hw, go_sem]
 have h1' : Cm s.known e.rep e.seq = false := by simpa using h1
 (try simp only [Ak, Aj, Ai, Ah, Ag, Af, Ae, Ad]); simp (maxSteps := 10000000) (disch := omega) only [h1', Jb, go_sem]
 refine Aa (A38 _ _) ?_;by_cases h2 : vLe e.dep s.known;rotate_left
 · have hw : Pe s e = 10 := by unfold Pe; rw [if_neg hc', if_neg h1, if_pos h2]
   have h2' := decide_eq_false h2
   (try simp only [Ak, Aj, Ai, Ah, Ag, Af, Ae, Ad]); simp (maxSteps := 10000000) (disch := omega) only [h2', hw, go_sem]
 have h2' := decide_eq_true h2;obtain ⟨k, hk8, hre⟩ : ∃ k : Nat, k < 8 ∧ e.rep - 1 = k := ⟨(e.rep - 1).toNat, by omega, by omega⟩
 have hld := fun (a b : PV) (w : Nat → Int) (r : Nat → Bool) (K : KK) => Ayv a b w r hk8 K
 (try simp only [Ak, Aj, Ai, Ah, Ag, Af, Ae, Ad]); simp (maxSteps := 10000000) (disch := omega) only [h2', Fv, hre, hld, go_sem]
 by_cases h3 : s.ret k = true
 · have hw : Pe s e = 28 := by unfold Pe; rw [if_neg hc', if_neg h1, if_neg (by simpa using h2), if_pos (by rw [hre]; exact h3)]
   (try simp only [Ak, Aj, Ai, Ah, Ag, Af, Ae, Ad]); simp (maxSteps := 10000000) (disch := omega) only [h3, hw, go_sem]
 have h3' : s.ret k = false := by simpa using h3
 have hw : Pe s e = Aps s e := by unfold Pe; rw [if_neg hc', if_neg h1, if_neg (by simpa using h2), if_neg (by rw [hre]; exact h3)]
 unfold Aps at hw;by_cases h89 : e.kind = 8 ∨ e.kind = 9
 · rw [if_pos h89] at hw;rcases h89 with h8 | h9
   · (try simp only [Ak, Aj, Ai, Ah, Ag, Af, Ae, Ad]); simp (maxSteps := 10000000) (disch := omega) only [h3', Ax, h8, hw, go_sem]
   · have n8 : ¬ e.kind = 8 := by omega
     (try simp only [Ak, Aj, Ai, Ah, Ag, Af, Ae, Ad]); simp (maxSteps := 10000000) (disch := omega) only [h3', Ax, n8, h9, hw, go_sem]
 rw [if_neg h89] at hw;have n8 : ¬ e.kind = 8 := fun q => h89 (.inl q);have n9 : ¬ e.kind = 9 := fun q => h89 (.inr q);by_cases h12 : e.kind = 1 ∨ e.kind = 2
 · rw [if_pos h12] at hw;rcases h12 with h1k | h2k
   · (try simp only [Ak, Aj, Ai, Ah, Ag, Af, Ae, Ad]); simp (maxSteps := 10000000) (disch := omega) only [h3', Ax, n8, n9, h1k, Ja, go_sem]
     refine Aa (hD.at (by simp [Bd, tn])) ?_
     (try simp only [Ak, Aj, Ai, Ah, Ag, Af, Ae, Ad]); simp (maxSteps := 10000000) (disch := omega) only [hw, go_sem]
   · have n1 : ¬ e.kind = 1 := by omega
     (try simp only [Ak, Aj, Ai, Ah, Ag, Af, Ae, Ad]); simp (maxSteps := 10000000) (disch := omega) only [h3', Ax, n8, n9, n1, h2k, Ja, go_sem]
     refine Aa (hD.at (by simp [Bd, tn])) ?_
     (try simp only [Ak, Aj, Ai, Ah, Ag, Af, Ae, Ad]); simp (maxSteps := 10000000) (disch := omega) only [hw, go_sem]
 rw [if_neg h12] at hw;have n1 : ¬ e.kind = 1 := fun q => h12 (.inl q);have n2 : ¬ e.kind = 2 := fun q => h12 (.inr q)
 (try simp only [Ak, Aj, Ai, Ah, Ag, Af, Ae, Ad]); simp (maxSteps := 10000000) (disch := omega) only [h3', Ax, n8, n9, n1, n2, Bj, go_sem]
 refine Aa (hO.at (by simp [Bd, tn])) ?_;cases hA : I7 s.objs (Cv e) with
 | none =>
   rw [hA] at hw;simp only at hw;have hol := C5 Am2
   (try simp only [Ak, Aj, Ai, Ah, Ag, Af, Ae, Ad]); simp (maxSteps := 10000000) (disch := omega) only [Option.isSome_none, Option.getD_none, hol, hw, go_sem]
 | some o =>
   rw [hA] at hw;simp only at hw;have hol := C5 o;by_cases h7 : e.kind = 7
   · rw [if_pos h7] at hw
     (try simp only [Ak, Aj, Ai, Ah, Ag, Af, Ae, Ad]); simp (maxSteps := 10000000) (disch := omega) only [Option.isSome_some, Option.getD_some, hol, Ax, h7, Ja, go_sem]
     refine Aa (hD.at (by simp [Bd, tn])) ?_
     (try simp only [Ak, Aj, Ai, Ah, Ag, Af, Ae, Ad]); simp (maxSteps := 10000000) (disch := omega) only [hw, go_sem]
   rw [if_neg h7] at hw;by_cases h6 : e.kind = 6
   · rw [if_pos h6] at hw
     (try simp only [Ak, Aj, Ai, Ah, Ag, Af, Ae, Ad]); simp (maxSteps := 10000000) (disch := omega) only [Option.isSome_some, Option.getD_some, hol, Ax, h7, h6, hw, go_sem]
   rw [if_neg h6] at hw;by_cases hd : o.dir = true
   · rw [if_pos hd] at hw
     (try simp only [Ak, Aj, Ai, Ah, Ag, Af, Ae, Ad]); simp (maxSteps := 10000000) (disch := omega) only [Option.isSome_some, Option.getD_some, hol, Ax, h7, h6, Db, hd, hw, go_sem]
   rw [if_neg hd] at hw;have hd' : o.dir = false := by simpa using hd
   have hk345 : e.kind = 3 ∨ e.kind = 4 ∨ e.kind = 5 := by omega
   have hb1 := Agb hc hk345;have hbl := Y1 hc hk345;have hom := List.mem_of_getElem? (L5 hA).1;have hov := hs.fine.ov o hom;have hpv : e.base.pv = .sl e.base.f e.base.z (e.base.l.map Ga) := rfl
   (try simp only [Ak, Aj, Ai, Ah, Ag, Af, Ae, Ad]); simp (maxSteps := 10000000) (disch := omega) only [Option.isSome_some, Option.getD_some, hol, Ax, h7, h6, Db, hd', go_sem]
   refine A1 Aq (Aqe s e o) (fun k => k ≤ e.base.l.length ∧ ∀ j b, j < k → e.base.l[j]? = some b → Bx o.vers b.1 b.2 ≠ none) (fun k => e.base.l.length - k) 0 ⟨by simp, fun j b hj => absurd hj (Nat.not_lt_zero j)⟩ (An ?_ ?_) fun k hk => ?_
   · (try simp only [Ak, Aj, Ai, Ah, Ag, Af, Ae, Ad]); simp (maxSteps := 10000000) (disch := omega) only [go_sem]
   · (try simp only [Ak, Aj, Ai, Ah, Ag, Af, Ae, Ad]); simp (maxSteps := 10000000) (disch := omega) only [Bb, Bg, go_sem]
   obtain ⟨hk1, hk2⟩ := hk;by_cases hlt : k < e.base.l.length
   · have hx : e.base.l[k]? = some e.base.l[k] := List.getElem?_eq_getElem hlt;have hel : (e.base.l.map Ga)[k]? = some (Ga e.base.l[k]) := by rw [List.getElem?_map, hx]; rfl
     have hz2 : e.base.z = 2 := he.2.1.resolve_left fun q => by rw [q] at hlt; simp at hlt
     have hbm := List.getElem_mem hlt;have hbz := Afl (hb1 _ hbm);generalize e.base.l[k] = b at *;have hnz : ¬ (b.1 = 0 ∧ b.2 = 0) := by omega
     (try simp only [Ak, Aj, Ai, Ah, Ag, Af, Ae, Ad]); simp (maxSteps := 10000000) (disch := omega) only [Aqe, Bb, Bg, J1, hpv, List.length_map, hz2, hel, Ic, Em, go_sem]
     refine Aa (Akw (l := o.vers) b.1 b.2 rfl rfl (by omega)) ?_;cases hf : Bx o.vers b.1 b.2 with
     | none =>
       have hm : Iq o.vers e.base.l := ⟨b, hbm, hf⟩
       rw [if_pos hm] at hw;have hdv := Vk hnz hf
       (try simp only [Ak, Aj, Ai, Ah, Ag, Af, Ae, Ad]); simp (maxSteps := 10000000) (disch := omega) only [hdv, hw, go_sem]
     | some v =>
       have hdv := Vj hnz hf
       (try simp only [Ak, Aj, Ai, Ah, Ag, Af, Ae, Ad]); simp (maxSteps := 10000000) (disch := omega) only [hdv, go_sem]
       refine Al (k + 1) _ _ rfl ⟨by omega, fun j c hj hjc => ?_⟩ (by omega) ?_ ?_
       · by_cases ej : j = k
         · subst ej; rw [hx] at hjc; cases hjc; rw [hf]; simp
         · exact hk2 j c (by omega) hjc
       · (try simp only [Ak, Aj, Ai, Ah, Ag, Af, Ae, Ad]); simp (maxSteps := 10000000) (disch := omega) only [go_sem]
       · (try simp only [Ak, Aj, Ai, Ah, Ag, Af, Ae, Ad]); simp (maxSteps := 10000000) (disch := omega) only [Bb, Bg, go_sem]
   · obtain rfl : k = e.base.l.length := by omega
     have hm : ¬ Iq o.vers e.base.l := fun ⟨b, hbm, hf⟩ => by
      obtain ⟨j, hj⟩ := List.mem_iff_getElem?.1 hbm;exact hk2 j b (List.getElem?_eq_some_iff.1 hj).1 hj hf
     rw [if_neg hm] at hw
     (try simp only [Ak, Aj, Ai, Ah, Ag, Af, Ae, Ad]); simp (maxSteps := 10000000) (disch := omega) only [Aqe, Bb, Bg, J1, hpv, List.length_map, hw, go_sem]
theorem Zi {α : Type} {P : List α → Prop} (h0 : P []) (h1 : ∀ l a, P l → P (l ++ [a])) : ∀ l, P l := by
 have key : ∀ n, ∀ l : List α, l.length = n → P l := by
  intro n
  induction n with
  | zero => intro l hl; rw [List.eq_nil_of_length_eq_zero hl]; exact h0
  | succ n ih =>
    intro l hl;have hne : l ≠ [] := fun e => by subst e; simp at hl
    rw [← List.dropLast_concat_getLast hne];exact h1 _ _ (ih _ (by simp [hl]))
 exact fun l => key _ l rfl
theorem Aql {l : List Obj} : H7 l ↔ l.Pairwise fun a b => M8 a.id b.id = true := by
 unfold H7 J8; rw [List.pairwise_map]; exact Iff.rfl
structure Acc (s : St) (e : Evt) : Prop where
 ck : Cc e = true
 new : Cm s.known e.rep e.seq = false
 dep : vLe e.dep s.known
 ret : s.ret (e.rep - 1).toNat = false
 why : Aps s e = 0
theorem Ac6 {s : St} {e : Evt} : Pe s e = 0 ↔ Acc s e := by
 unfold Pe;constructor
 · intro h;split at h
   · cases h
   · split at h
     · cases h
     · split at h
       · cases h
       · split at h
         · cases h
         · rename_i h1 h2 h3 h4;exact ⟨by simpa using h1, by simpa using h2, by simpa using h3, by simpa using h4, h⟩
 · intro ⟨h1, h2, h3, h4, h5⟩;rw [if_neg (by rw [h1]; simp), if_neg (by rw [h2]; simp), if_neg (fun q => q h3), if_neg (by rw [h4]; simp)];exact h5
inductive Val : List Evt → Prop
 | nil : Val []
 | snoc {l : List Evt} {e : Evt} : Val l → ev e → Pe (Bv l) e = 0 → Val (l ++ [e])
theorem Lg (l : List Evt) : (Bv l).known = Dg l := (Agj l l).2
theorem O9 (l : List Evt) : (Bv l).ents = Eh l l := (Agj l l).1
theorem Val.inv {l : List Evt} {e : Evt} (h : Val (l ++ [e])) : Val l ∧ ev e ∧ Pe (Bv l) e = 0 := by
 generalize hm : l ++ [e] = m at h;cases h with
 | nil => simp at hm
 | snoc a b c =>
   obtain ⟨rfl, h2⟩ := List.append_inj' hm rfl;cases h2;exact ⟨a, b, c⟩
theorem Val.pre {l m : List Evt} : Val (l ++ m) → Val l :=
 Zi (P := fun m => Val (l ++ m) → Val l) (fun h => by simpa using h) (fun m e ih h => by
  rw [← List.append_assoc] at h;exact ih h.inv.1) m
theorem Rn {a : Vc} {i : Ca} : Cm a i.1 i.2 = true ↔ 1 ≤ i.2 ∧ 1 ≤ i.1 ∧ i.1 ≤ 8 ∧ i.2 ≤ a (i.1 - 1).toNat := by
 refine ⟨Afl, fun ⟨h1, h2, h3, h4⟩ => ?_⟩;unfold Cm Mk; rw [if_pos ⟨h2, h3⟩]; exact decide_eq_true ⟨h1, h4⟩
theorem Apr {v : Vc} {r : Int} {q : Nat} (hr : 1 ≤ r ∧ r ≤ 8) (i : Nat) : Br v r q i = if i = (r - 1).toNat then max (v i) q else v i := by
 unfold Br Er; rw [if_pos hr]; split
 · rename_i h; rw [h]
 · rfl
theorem Avx {s : St} {e : Evt} (h : Acc s e) : 1 ≤ e.rep ∧ e.rep ≤ 8 ∧ e.seq = s.known (e.rep - 1).toNat + 1 := by
 obtain ⟨b1, b2, b3, b4, b5, b6, b7⟩ := Hl h.ck;have h1 := h.dep (e.rep - 1).toNat (by omega);have h2 : ¬ Cm s.known e.rep e.seq = true := by rw [h.new]; simp
 rw [show Cm s.known e.rep e.seq = Cm s.known (A2 e).1 (A2 e).2 from rfl, Rn] at h2;simp only at h2;omega
theorem Val.known {l : List Evt} (h : Val l) : NodE l ∧ ∀ i : Ca, Cm (Dg l) i.1 i.2 = true ↔ ∃ e ∈ l, A2 e = i := by
 induction h with
 | nil => exact ⟨List.nodup_nil, fun i => by rw [Rn]; simp [Dg]; omega⟩
 | @snoc l e hl he hw ih =>
   have ha := Ac6.1 hw;obtain ⟨n1, n2, n3⟩ := Avx ha;have hb := Hl ha.ck;rw [Lg] at n3;have hnew : ¬ ∃ f ∈ l, A2 f = A2 e := fun q => by
    have := (ih.2 (A2 e)).2 q;have h2 := ha.new;rw [Lg] at h2;rw [show Cm (Dg l) (A2 e).1 (A2 e).2 = Cm (Dg l) e.rep e.seq from rfl, h2] at this;cases this
   refine ⟨?_, fun i => ?_⟩
   · unfold NodE;rw [List.map_append, List.nodup_append];refine ⟨ih.1, by simp, fun a hm b hb q => hnew ?_⟩;obtain ⟨f, hf, rfl⟩ := List.mem_map.1 hm;simp at hb;exact ⟨f, hf, by rw [q, hb]⟩
   · rw [T8];have key : Cm (Br (Dg l) e.rep e.seq) i.1 i.2 = true ↔ Cm (Dg l) i.1 i.2 = true ∨ i = A2 e := by
      rw [Rn, Rn, Apr ⟨n1, n2⟩];by_cases hi : i = A2 e
      · subst hi;simp only [or_true, iff_true];refine ⟨hb.2.2.1, n1, n2, ?_⟩;simp only [if_true]; exact Nat.le_max_right _ _
      · simp only [hi, or_false];by_cases hr : i.1 = e.rep
        · have hq : i.2 ≠ e.seq := fun q => hi (Prod.ext hr q);rw [hr, if_pos rfl];omega
        · constructor
          · rintro ⟨a, b, c, d⟩;rw [if_neg (by omega)] at d;exact ⟨a, b, c, d⟩
          · rintro ⟨a, b, c, d⟩;rw [if_neg (by omega)];exact ⟨a, b, c, d⟩
     rw [key, ih.2];constructor
     · rintro (⟨f, hf, q⟩ | q)
       · exact ⟨f, by simp [hf], q⟩
       · exact ⟨e, by simp, q.symm⟩
     · rintro ⟨f, hf, q⟩;rcases List.mem_append.1 hf with hf | hf
       · exact .inl ⟨f, hf, q⟩
       · rw [List.mem_singleton] at hf; subst hf; exact .inr q.symm
theorem Val.nod {l : List Evt} (h : Val l) : NodE l := h.known.1
theorem Val.has {l : List Evt} (h : Val l) {i : Ca} : Cm (Dg l) i.1 i.2 = true ↔ ∃ e ∈ l, A2 e = i := h.known.2 i
theorem Val.mem {l : List Evt} (h : Val l) {e : Evt} (he : e ∈ l) : ∃ a b, l = a ++ e :: b ∧ Val a ∧ ev e ∧ Acc (Bv a) e := by
 obtain ⟨a, b, rfl⟩ := List.append_of_mem he;have h2 : Val ((a ++ [e]) ++ b) := by rw [List.append_assoc]; exact h
 obtain ⟨h3, h4, h5⟩ := h2.pre.inv;exact ⟨a, b, rfl, h3, h4, Ac6.1 h5⟩
theorem Aly {l : List Evt} (h : Val l) {e : Evt} (ha : Acc (Bv l) e) : ∀ f ∈ l, A2 f ≠ A2 e := fun f hf q => by
 have h1 := h.has.2 ⟨f, hf, q⟩;have h2 := ha.new;rw [Lg] at h2;rw [show Cm (Dg l) (A2 e).1 (A2 e).2 = Cm (Dg l) e.rep e.seq from rfl, h2] at h1;cases h1
theorem Aga {e : Evt} (h : Cc e = true) : F5 e = true ∧ D1 (F8 e) = true := by
 unfold Cc at h;simp only [Bool.and_eq_true, decide_eq_true_eq] at h;exact ⟨h.2.2.2, h.2.2.1⟩
theorem Zv {l : List Evt} : ∀ m : List Evt, NodE m → J8 (Eh l m) ∧ ∀ x, x ∈ Eh l m ↔ ∃ e ∈ m, mkB e = true ∧ x = D8 l e := by
 refine Zi (fun _ => ⟨List.Pairwise.nil, by simp [Eh]⟩) fun m e ih hn => ?_;have hn' : NodE m := by unfold NodE at *; rw [List.map_append] at hn; exact hn.sublist (List.sublist_append_left _ _)
 obtain ⟨h1, h2⟩ := ih hn';have grow : ∀ x : Ent, (∃ f ∈ m ++ [e], mkB f = true ∧ x = D8 l f) ↔ (∃ f ∈ m, mkB f = true ∧ x = D8 l f) ∨ (mkB e = true ∧ x = D8 l e) := fun o => by
  simp only [List.mem_append, List.mem_singleton];constructor
  · rintro ⟨f, hf | rfl, h⟩
    · exact .inl ⟨f, hf, h⟩
    · exact .inr h
  · rintro (⟨f, hf, h⟩ | h)
    · exact ⟨f, .inl hf, h⟩
    · exact ⟨e, .inr rfl, h⟩
 rw [Qb];by_cases hm : mkB e = true
 · rw [if_pos hm, Zk h1];have hnew : Pj (Eh l m) (D8 l e).id = none := Hi.2 fun x hx q => by
    obtain ⟨f, hf, _, rfl⟩ := (h2 x).1 hx;unfold NodE at hn;rw [List.map_append, List.nodup_append] at hn;exact hn.2.2 (A2 f) (List.mem_map_of_mem hf) (A2 e) (by simp) q
   have e1 : Ahx (Eh l m) (D8 l e) = Up (Eh l m) (D8 l e) := by
    unfold Ahx; rw [if_neg (by rw [A1q.2 hnew]; simp)]
   rw [e1];refine ⟨Adx h1 hnew, fun x => ?_⟩;rw [Ak1, h2, grow];exact ⟨fun q => q.elim (fun q => .inr ⟨hm, q⟩) .inl, fun q => q.elim .inr fun q => .inl q.2⟩
 · rw [if_neg hm];refine ⟨h1, fun x => ?_⟩;rw [h2, grow];exact ⟨.inl, fun q => q.resolve_right fun q => hm q.1⟩
theorem A1j (x : Ver) {h d} : FunOk Tryz.prog 65 [.vec 11 (Ba x)] h d (.vec 2 [.i .i64 x.rep, .i .u32 x.seq]) [] := by
 refine Iz Aq fn65 (by simp) rfl rfl fun F => ?_;have hl := Gp x
 (try simp only [Ak, Aj, Ai, Ah, Ag, Af, Ae, Ad]); simp (maxSteps := 10000000) (disch := omega) only [ir65, Co, hl, go_sem]
 refine ⟨_, .same _, ?_⟩
 (try simp only [Ak, Aj, Ai, Ah, Ag, Af, Ae, Ad]); simp (maxSteps := 10000000) (disch := omega) only [go_sem]
theorem A1k (x : Obj) {h d} : FunOk Tryz.prog 67 [.vec 15 (A6 x)] h d (.vec 2 [.i .i64 x.id.1, .i .u32 x.id.2]) [] := by
 refine Iz Aq fn67 (by simp) rfl rfl fun F => ?_;have hl := C5 x
 (try simp only [Ak, Aj, Ai, Ah, Ag, Af, Ae, Ad]); simp (maxSteps := 10000000) (disch := omega) only [ir67, C6, hl, go_sem]
 refine ⟨_, .same _, ?_⟩
 (try simp only [Ak, Aj, Ai, Ah, Ag, Af, Ae, Ad]); simp (maxSteps := 10000000) (disch := omega) only [go_sem]
theorem A1l (x : Ent) {h d} : FunOk Tryz.prog 69 [.vec 15 (Bk x)] h d (.vec 2 [.i .i64 x.id.1, .i .u32 x.id.2]) [] := by
 refine Iz Aq fn69 (by simp) rfl rfl fun F => ?_;have hl := C7 x
 (try simp only [Ak, Aj, Ai, Ah, Ag, Af, Ae, Ad]); simp (maxSteps := 10000000) (disch := omega) only [ir69, Dv, hl, go_sem]
 refine ⟨_, .same _, ?_⟩
 (try simp only [Ak, Aj, Ai, Ah, Ag, Af, Ae, Ad]); simp (maxSteps := 10000000) (disch := omega) only [go_sem]
def Ris {α : Type} (id : α → Ca) (l : List α) : Prop := ∀ (i : Nat) (a b : α), l[i]? = some a → l[i + 1]? = some b → C8 (id a).1 (id a).2 (id b).1 (id b).2 = true
theorem Aht {α : Type} {id : α → Ca} {l : List α} (h : l.Pairwise fun a b => M8 (id a) (id b) = true) : Ris id l := fun i a b ha hb => by
 have h1 := (List.getElem?_eq_some_iff.1 ha)
 have h2 := (List.getElem?_eq_some_iff.1 hb)
 have := List.pairwise_iff_getElem.1 h i (i + 1) h1.1 h2.1 (by omega);rw [h1.2, h2.2] at this;exact this
def Adq (f : Bool) (z : Nat) (l : List Ver) (k : Nat) : FS := mk [(5, .pv (.i .i64 (k + 1 : Nat))), (0, .pv (.sl f z (l.map Ba))), (1, .fn (.func 65) [])] []
theorem A33 {f : Bool} {z : Nat} {l : List Ver} {h d} (hz : l = [] ∨ z = 11) (hn : l.length ≤ 1000) (hr : Ris (fun x : Ver => (x.rep, x.seq)) l) :
 FunOk Tryz.prog 64 [.pv (.sl f z (l.map Ba)), .fn (.func 65) []] h d (.pv (.b true)) [] := by
 refine A7 Aq fn64 (by simp) rfl rfl fun F => ?_;by_cases h0 : l = []
 · subst h0
   (try simp only [Ak, Aj, Ai, Ah, Ag, Af, Ae, Ad]); simp (maxSteps := 10000000) (disch := omega) only [ir64, List.length_map, List.length_nil, go_sem]
   refine A1 Aq (Adq f z []) (fun k => k = 0) (fun k => 0) 0 rfl (An ?_ ?_) fun k hk => ?_
   · (try simp only [Ak, Aj, Ai, Ah, Ag, Af, Ae, Ad]); simp (maxSteps := 10000000) (disch := omega) only [List.map_nil, go_sem]
   · (try simp only [Ak, Aj, Ai, Ah, Ag, Af, Ae, Ad]); simp (maxSteps := 10000000) (disch := omega) only [go_sem]
   subst hk
   (try simp only [Ak, Aj, Ai, Ah, Ag, Af, Ae, Ad]); simp (maxSteps := 10000000) (disch := omega) only [Adq, List.length_map, List.length_nil, go_sem]
 obtain rfl := hz.resolve_left h0;have hlp := List.length_pos_iff.2 h0
 (try simp only [Ak, Aj, Ai, Ah, Ag, Af, Ae, Ad]); simp (maxSteps := 10000000) (disch := omega) only [ir64, List.length_map, go_sem]
 refine A1 Aq (Adq f 11 l) (fun k => k + 1 ≤ l.length) (fun k => l.length - k) 0 hlp (An ?_ ?_) fun k hk => ?_
 · (try simp only [Ak, Aj, Ai, Ah, Ag, Af, Ae, Ad]); simp (maxSteps := 10000000) (disch := omega) only [go_sem]
 · (try simp only [Ak, Aj, Ai, Ah, Ag, Af, Ae, Ad]); simp (maxSteps := 10000000) (disch := omega) only [go_sem]
 by_cases hlt : k + 1 < l.length
 · have e1 : l[k]? = some l[k] := List.getElem?_eq_getElem (by omega);have e2 : l[k + 1]? = some l[k + 1] := List.getElem?_eq_getElem hlt;have m1 : (l.map Ba)[k]? = some (Ba l[k]) := by rw [List.getElem?_map, e1]; rfl
   have m2 : (l.map Ba)[k + 1]? = some (Ba l[k + 1]) := by rw [List.getElem?_map, e2]; rfl
   have hlt2 := hr k _ _ e1 e2;simp only at hlt2;generalize l[k] = x at *;generalize l[k + 1] = y at *;have q1 : (((k + 1 : Nat) : Int) - 1) = (k : Int) := by omega
   have q2 : ((k : Nat) : Int).toNat = k := by omega
   have q3 : (((k + 1 : Nat) : Int)).toNat = k + 1 := by omega
   have hxl := Gp x;have hyl := Gp y
   (try simp only [Ak, Aj, Ai, Ah, Ag, Af, Ae, Ad]); simp (maxSteps := 10000000) (disch := omega) only [Adq, List.length_map, m1, m2, q1, q2, q3, Ib, go_sem]
   refine Aa (A1j x) ?_
   (try simp only [Ak, Aj, Ai, Ah, Ag, Af, Ae, Ad]); simp (maxSteps := 10000000) (disch := omega) only [List.length_map, m1, m2, q1, q2, q3, Ib, go_sem]
   refine Aa (A1j y) ?_
   (try simp only [Ak, Aj, Ai, Ah, Ag, Af, Ae, Ad]); simp (maxSteps := 10000000) (disch := omega) only [go_sem]
   refine Aa (Ah5 _ _ _ _) ?_
   (try simp only [Ak, Aj, Ai, Ah, Ag, Af, Ae, Ad]); simp (maxSteps := 10000000) (disch := omega) only [hlt2, go_sem]
   refine Al (k + 1) _ _ rfl (by omega) (by omega) ?_ ?_
   · (try simp only [Ak, Aj, Ai, Ah, Ag, Af, Ae, Ad]); simp (maxSteps := 10000000) (disch := omega) only [go_sem]
   · (try simp only [Ak, Aj, Ai, Ah, Ag, Af, Ae, Ad]); simp (maxSteps := 10000000) (disch := omega) only [go_sem]
 · have hkl : (l.length : Int) = ((k + 1 : Nat) : Int) := by omega
   (try simp only [Ak, Aj, Ai, Ah, Ag, Af, Ae, Ad]); simp (maxSteps := 10000000) (disch := omega) only [Adq, List.length_map, hkl, go_sem]
def Adr (f : Bool) (z : Nat) (l : List Obj) (k : Nat) : FS := mk [(5, .pv (.i .i64 (k + 1 : Nat))), (0, .pv (.sl f z (l.map A6))), (1, .fn (.func 67) [])] []
theorem A34 {f : Bool} {z : Nat} {l : List Obj} {h d} (hz : l = [] ∨ z = 15) (hn : l.length ≤ 1000) (hr : Ris (fun x : Obj => x.id) l) :
 FunOk Tryz.prog 66 [.pv (.sl f z (l.map A6)), .fn (.func 67) []] h d (.pv (.b true)) [] := by
 refine A7 Aq fn66 (by simp) rfl rfl fun F => ?_;by_cases h0 : l = []
 · subst h0
   (try simp only [Ak, Aj, Ai, Ah, Ag, Af, Ae, Ad]); simp (maxSteps := 10000000) (disch := omega) only [ir66, List.length_map, List.length_nil, go_sem]
   refine A1 Aq (Adr f z []) (fun k => k = 0) (fun k => 0) 0 rfl (An ?_ ?_) fun k hk => ?_
   · (try simp only [Ak, Aj, Ai, Ah, Ag, Af, Ae, Ad]); simp (maxSteps := 10000000) (disch := omega) only [List.map_nil, go_sem]
   · (try simp only [Ak, Aj, Ai, Ah, Ag, Af, Ae, Ad]); simp (maxSteps := 10000000) (disch := omega) only [go_sem]
   subst hk
   (try simp only [Ak, Aj, Ai, Ah, Ag, Af, Ae, Ad]); simp (maxSteps := 10000000) (disch := omega) only [Adr, List.length_map, List.length_nil, go_sem]
 obtain rfl := hz.resolve_left h0;have hlp := List.length_pos_iff.2 h0
 (try simp only [Ak, Aj, Ai, Ah, Ag, Af, Ae, Ad]); simp (maxSteps := 10000000) (disch := omega) only [ir66, List.length_map, go_sem]
 refine A1 Aq (Adr f 15 l) (fun k => k + 1 ≤ l.length) (fun k => l.length - k) 0 hlp (An ?_ ?_) fun k hk => ?_
 · (try simp only [Ak, Aj, Ai, Ah, Ag, Af, Ae, Ad]); simp (maxSteps := 10000000) (disch := omega) only [go_sem]
 · (try simp only [Ak, Aj, Ai, Ah, Ag, Af, Ae, Ad]); simp (maxSteps := 10000000) (disch := omega) only [go_sem]
 by_cases hlt : k + 1 < l.length
 · have e1 : l[k]? = some l[k] := List.getElem?_eq_getElem (by omega);have e2 : l[k + 1]? = some l[k + 1] := List.getElem?_eq_getElem hlt;have m1 : (l.map A6)[k]? = some (A6 l[k]) := by rw [List.getElem?_map, e1]; rfl
   have m2 : (l.map A6)[k + 1]? = some (A6 l[k + 1]) := by rw [List.getElem?_map, e2]; rfl
   have hlt2 := hr k _ _ e1 e2;simp only at hlt2;generalize l[k] = x at *;generalize l[k + 1] = y at *;have q1 : (((k + 1 : Nat) : Int) - 1) = (k : Int) := by omega
   have q2 : ((k : Nat) : Int).toNat = k := by omega
   have q3 : (((k + 1 : Nat) : Int)).toNat = k + 1 := by omega
   have hxl := C5 x;have hyl := C5 y
   (try simp only [Ak, Aj, Ai, Ah, Ag, Af, Ae, Ad]); simp (maxSteps := 10000000) (disch := omega) only [Adr, List.length_map, m1, m2, q1, q2, q3, D4, go_sem]
   refine Aa (A1k x) ?_
   (try simp only [Ak, Aj, Ai, Ah, Ag, Af, Ae, Ad]); simp (maxSteps := 10000000) (disch := omega) only [List.length_map, m1, m2, q1, q2, q3, D4, go_sem]
   refine Aa (A1k y) ?_
   (try simp only [Ak, Aj, Ai, Ah, Ag, Af, Ae, Ad]); simp (maxSteps := 10000000) (disch := omega) only [go_sem]
   refine Aa (Ah5 _ _ _ _) ?_
   (try simp only [Ak, Aj, Ai, Ah, Ag, Af, Ae, Ad]); simp (maxSteps := 10000000) (disch := omega) only [hlt2, go_sem]
   refine Al (k + 1) _ _ rfl (by omega) (by omega) ?_ ?_
   · (try simp only [Ak, Aj, Ai, Ah, Ag, Af, Ae, Ad]); simp (maxSteps := 10000000) (disch := omega) only [go_sem]
   · (try simp only [Ak, Aj, Ai, Ah, Ag, Af, Ae, Ad]); simp (maxSteps := 10000000) (disch := omega) only [go_sem]
 · have hkl : (l.length : Int) = ((k + 1 : Nat) : Int) := by omega
   (try simp only [Ak, Aj, Ai, Ah, Ag, Af, Ae, Ad]); simp (maxSteps := 10000000) (disch := omega) only [Adr, List.length_map, hkl, go_sem]
def Ads (f : Bool) (z : Nat) (l : List Ent) (k : Nat) : FS := mk [(5, .pv (.i .i64 (k + 1 : Nat))), (0, .pv (.sl f z (l.map Bk))), (1, .fn (.func 69) [])] []
theorem A35 {f : Bool} {z : Nat} {l : List Ent} {h d} (hz : l = [] ∨ z = 15) (hn : l.length ≤ 1000) (hr : Ris (fun x : Ent => x.id) l) :
 FunOk Tryz.prog 68 [.pv (.sl f z (l.map Bk)), .fn (.func 69) []] h d (.pv (.b true)) [] := by
 refine A7 Aq fn68 (by simp) rfl rfl fun F => ?_;by_cases h0 : l = []
 · subst h0
   (try simp only [Ak, Aj, Ai, Ah, Ag, Af, Ae, Ad]); simp (maxSteps := 10000000) (disch := omega) only [ir68, List.length_map, List.length_nil, go_sem]
   refine A1 Aq (Ads f z []) (fun k => k = 0) (fun k => 0) 0 rfl (An ?_ ?_) fun k hk => ?_
   · (try simp only [Ak, Aj, Ai, Ah, Ag, Af, Ae, Ad]); simp (maxSteps := 10000000) (disch := omega) only [List.map_nil, go_sem]
   · (try simp only [Ak, Aj, Ai, Ah, Ag, Af, Ae, Ad]); simp (maxSteps := 10000000) (disch := omega) only [go_sem]
   subst hk
   (try simp only [Ak, Aj, Ai, Ah, Ag, Af, Ae, Ad]); simp (maxSteps := 10000000) (disch := omega) only [Ads, List.length_map, List.length_nil, go_sem]
 obtain rfl := hz.resolve_left h0;have hlp := List.length_pos_iff.2 h0
 (try simp only [Ak, Aj, Ai, Ah, Ag, Af, Ae, Ad]); simp (maxSteps := 10000000) (disch := omega) only [ir68, List.length_map, go_sem]
 refine A1 Aq (Ads f 15 l) (fun k => k + 1 ≤ l.length) (fun k => l.length - k) 0 hlp (An ?_ ?_) fun k hk => ?_
 · (try simp only [Ak, Aj, Ai, Ah, Ag, Af, Ae, Ad]); simp (maxSteps := 10000000) (disch := omega) only [go_sem]
 · (try simp only [Ak, Aj, Ai, Ah, Ag, Af, Ae, Ad]); simp (maxSteps := 10000000) (disch := omega) only [go_sem]
 by_cases hlt : k + 1 < l.length
 · have e1 : l[k]? = some l[k] := List.getElem?_eq_getElem (by omega);have e2 : l[k + 1]? = some l[k + 1] := List.getElem?_eq_getElem hlt;have m1 : (l.map Bk)[k]? = some (Bk l[k]) := by rw [List.getElem?_map, e1]; rfl
   have m2 : (l.map Bk)[k + 1]? = some (Bk l[k + 1]) := by rw [List.getElem?_map, e2]; rfl
   have hlt2 := hr k _ _ e1 e2;simp only at hlt2;generalize l[k] = x at *;generalize l[k + 1] = y at *;have q1 : (((k + 1 : Nat) : Int) - 1) = (k : Int) := by omega
   have q2 : ((k : Nat) : Int).toNat = k := by omega
   have q3 : (((k + 1 : Nat) : Int)).toNat = k + 1 := by omega
   have hxl := C7 x;have hyl := C7 y
   (try simp only [Ak, Aj, Ai, Ah, Ag, Af, Ae, Ad]); simp (maxSteps := 10000000) (disch := omega) only [Ads, List.length_map, m1, m2, q1, q2, q3, Ge, go_sem]
   refine Aa (A1l x) ?_
   (try simp only [Ak, Aj, Ai, Ah, Ag, Af, Ae, Ad]); simp (maxSteps := 10000000) (disch := omega) only [List.length_map, m1, m2, q1, q2, q3, Ge, go_sem]
   refine Aa (A1l y) ?_
   (try simp only [Ak, Aj, Ai, Ah, Ag, Af, Ae, Ad]); simp (maxSteps := 10000000) (disch := omega) only [go_sem]
   refine Aa (Ah5 _ _ _ _) ?_
   (try simp only [Ak, Aj, Ai, Ah, Ag, Af, Ae, Ad]); simp (maxSteps := 10000000) (disch := omega) only [hlt2, go_sem]
   refine Al (k + 1) _ _ rfl (by omega) (by omega) ?_ ?_
   · (try simp only [Ak, Aj, Ai, Ah, Ag, Af, Ae, Ad]); simp (maxSteps := 10000000) (disch := omega) only [go_sem]
   · (try simp only [Ak, Aj, Ai, Ah, Ag, Af, Ae, Ad]); simp (maxSteps := 10000000) (disch := omega) only [go_sem]
 · have hkl : (l.length : Int) = ((k + 1 : Nat) : Int) := by omega
   (try simp only [Ak, Aj, Ai, Ah, Ag, Af, Ae, Ad]); simp (maxSteps := 10000000) (disch := omega) only [Ads, List.length_map, hkl, go_sem]
def A2q (s : St) (k : Nat) : FS := mk [(8, .pv (.i .i64 k)), (7, .pv (.i .i64 s.objs.length)), (6, .pv (.sl false 15 (s.objs.map A6))), (1, .p 1 0), (2, .pv (.b false))] [(1, some (.var (.agg (Bb s))))]
theorem Art {s : St} (hs : WrS s) (h1 : H7 s.objs) (h2 : J8 s.ents) (h3 : ∀ o ∈ s.objs, Fs o.vers) {h d} : FunOk Tryz.prog 31 [.agg (Bb s)] h d (.pv (.b true)) [] := by
 refine A7 Aq fn31 (by simp) rfl rfl fun F => ?_;have hon := hs.on;have hen := hs.en
 (try simp only [Ak, Aj, Ai, Ah, Ag, Af, Ae, Ad]); simp (maxSteps := 10000000) (disch := omega) only [ir31, Bb, Bg, List.length_map, go_sem]
 refine A1 Aq (A2q s) (fun k => k ≤ s.objs.length) (fun k => s.objs.length - k) 0 (by simp) (An ?_ ?_) fun k hk => ?_
 · (try simp only [Ak, Aj, Ai, Ah, Ag, Af, Ae, Ad]); simp (maxSteps := 10000000) (disch := omega) only [go_sem]
 · (try simp only [Ak, Aj, Ai, Ah, Ag, Af, Ae, Ad]); simp (maxSteps := 10000000) (disch := omega) only [Bb, Bg, go_sem]
 by_cases hlt : k < s.objs.length
 · have e1 : (s.objs.map A6)[k]? = some (A6 s.objs[k]) := by simp [hlt]
   have ho := hs.o _ (List.getElem_mem hlt);have hv := h3 _ (List.getElem_mem hlt);generalize s.objs[k] = o at *;have hol := C5 o;have hvn := ho.vn
   (try simp only [Ak, Aj, Ai, Ah, Ag, Af, Ae, Ad]); simp (maxSteps := 10000000) (disch := omega) only [A2q, Bb, Bg, List.length_map, e1, D4, hol, Em, go_sem]
   refine Aa (A33 (f := false) (z := 11) (l := o.vers) (.inr rfl) (by omega) (Aht hv)) ?_
   (try simp only [Ak, Aj, Ai, Ah, Ag, Af, Ae, Ad]); simp (maxSteps := 10000000) (disch := omega) only [go_sem]
   refine Al (k + 1) _ _ rfl (by omega) (by omega) ?_ ?_
   · (try simp only [Ak, Aj, Ai, Ah, Ag, Af, Ae, Ad]); simp (maxSteps := 10000000) (disch := omega) only [go_sem]
   · (try simp only [Ak, Aj, Ai, Ah, Ag, Af, Ae, Ad]); simp (maxSteps := 10000000) (disch := omega) only [Bb, Bg, go_sem]
 obtain rfl : k = s.objs.length := by omega
 (try simp only [Ak, Aj, Ai, Ah, Ag, Af, Ae, Ad]); simp (maxSteps := 10000000) (disch := omega) only [A2q, Bb, Bg, go_sem]
 refine Aa (A34 (f := false) (z := 15) (l := s.objs) (.inr rfl) (by omega) (Aht (Aql.1 h1))) ?_
 (try simp only [Ak, Aj, Ai, Ah, Ag, Af, Ae, Ad]); simp (maxSteps := 10000000) (disch := omega) only [go_sem]
 refine Aa (A35 (f := false) (z := 15) (l := s.ents) (.inr rfl) (by omega) (Aht h2)) ?_
 (try simp only [Ak, Aj, Ai, Ah, Ag, Af, Ae, Ad]); simp (maxSteps := 10000000) (disch := omega) only [go_sem]
end Go.Proofs.YtannaphhhkncoaaGreat.Fw
namespace Go.Proofs.YtannaphhhkncoaaGreat.Fw
open Go.RowKit Go.Proofs
section
variable {P : Program} {N : Nat} {s : FS}
theorem Asu (hm : P.follows .mixedOrders = true) {r : Option Nat} {X : Frs} {α : Type} (I : α → FS) (J : α → Prop) (m : α → Nat) (x₀ : α) {c : C} {Q : Ch} (h0 : J x₀) (hw : Wk s (I x₀))
 (hround : ∀ x, J x → ∃ s', Wk (I x) s' ∧ sx (Ff P r X N) c (Ae2 I J m x Q) s') : (Ff P r X N).loop c Q s := by
 intro code hc a w hR
 classical
 let T : Act → World → Nat → Prop := fun a w n => ∃ x, J x ∧ RelX X N (I x) a w ∧ m x = n
 let μ : Act → World → Nat := fun a w => if h : ∃ n, T a w n then (Zx h).choose else 0
 refine wpIn_loop (fun a w => ∃ x, J x ∧ RelX X N (I x) a w) μ ⟨x₀, h0, hR.wk hw⟩ fun a w ⟨x, hJ, hRx⟩ => ?_;have hex : ∃ n, T a w n := ⟨m x, x, hJ, hRx, rfl⟩
 obtain ⟨⟨x', hJ', hR', hmx⟩, _⟩ := (Zx hex).choose_spec;have hμ : μ a w = m x' := by simp only [μ, dif_pos hex]; exact hmx.symm
 obtain ⟨s', hs', hrun⟩ := hround x' hJ';refine wpIn_mono (Jr hm hc hrun (hR'.wk hs')) fun e a' w' he => ?_;cases e with
 | normal =>
   obtain ⟨s', hs', y, hJy, hlt, hwk⟩ := he;have hy : T a' w' (m y) := ⟨y, hJy, hs'.wk hwk, rfl⟩
   refine ⟨⟨y, hJy, hs'.wk hwk⟩, ?_⟩;have hex' : ∃ n, T a' w' n := ⟨_, hy⟩
   have : μ a' w' ≤ m y := by simp only [μ, dif_pos hex']; exact (Zx hex').choose_spec.2 _ hy
   omega
 | exit id => exact he
 | ret => exact he
 | goto _ => exact he
 | panic _ => exact he
 | outgrown => exact he
theorem Ak2 {r : Option Nat} {X : Frs} {c : C} {Q : Ch} {s' : FS} (hw : Wk s s') (h : (Ff P r X N).loop c Q s') : (Ff P r X N).loop c Q s := fun code hc a w hR => h code hc a w (hR.wk hw)
end
def hdS (s : St) (k : Nat) : St := ⟨s.known, [], [], fun i => if i < k then s.wards i else 0, fun i => if i < k then s.ret i else false⟩
def Aey : SV := .pv (.sl true 0 [])
def Acm (s : St) : List (List UInt8) := s.objs.map G4 ++ ([] :: s.ents.map H3)
def Kw (s : St) (k : Nat) : List (List UInt8) := (Acm s).drop k
def oHd (s : St) (k : Nat) : List UInt8 := (Acm s).getD k []
theorem Ak0 {s : St} {k : Nat} (hk : k ≤ s.objs.length) : Kw s k = oHd s k :: Kw s (k + 1) := by
 have h : k < (Acm s).length := by simp [Acm]; omega
 unfold Kw oHd;rw [List.drop_eq_getElem_cons h, List.getD_eq_getElem?_getD, List.getElem?_eq_getElem h]; rfl
theorem A9b {s : St} {k : Nat} (hk : k < s.objs.length) : oHd s k = G4 s.objs[k] := by
 unfold oHd Acm;rw [List.getD_eq_getElem?_getD, List.getElem?_append_left (by simpa using hk)];simp [hk]
theorem A9c (s : St) : oHd s s.objs.length = [] := by
 unfold oHd Acm;rw [List.getD_eq_getElem?_getD, List.getElem?_append_right (by simp)];simp
theorem Ayb (s : St) : Kw s (s.objs.length + 1) = s.ents.map H3 := by
 unfold Kw Acm;rw [List.drop_append];simp [List.drop_eq_nil_of_le]
theorem Aya (s : St) (k : Nat) : (Kw s k).length ≤ s.objs.length + s.ents.length + 1 := by
 simp [Kw, Acm]; omega
def a2 : Option Blk := some (.var (.agg [.vec 8 (vE fun _ => 0), .pv (.sl true 0 []), .pv (.sl true 0 []), .vec 8 (iE fun _ => 0), .vec 8 (wE fun _ => false)]))
def A2s (s : St) (k : Nat) : FS := mk [(9, .pv (.sl false 1 (Am (oHd s k)))), (0, .pv (.sl false 1 (Am (Hc s)))), (2, .p 2 0), (3, .p 3 0), (4, .p 14 0), (5, .p 5 0)]
 [(14, some (Lx false (Kw s (k + 1)))), (5, some (.var (.agg (Bg s (.os 300) (.pv (.sl true 0 [])))))), (300, some (.row 15 ((s.objs.take k).map A6))), (2, a2), (3, some (.var (.pv (.i .i64 0))))]
def A2t (s : St) (k : Nat) : FS := mk [(26, .pv (.i .i64 k)), (25, .pv (.i .i64 8)), (24, .pv (.sl false 1 (Am (G9 s 8)))), (0, .pv (.sl false 1 (Am (Hc s)))), (2, .p 2 0), (3, .p 3 0), (4, .p 14 0), (5, .p 5 0)]
 [(14, some (Lx false (Kw s 0))), (5, some (.var (.agg (Bg (hdS s k) Aey Aey)))), (2, some (.var (.agg [.vec 8 (vE fun _ => 0), Aey, Aey, .vec 8 (iE fun _ => 0), .vec 8 (wE fun _ => false)]))), (3, some (.var (.pv (.i .i64 0))))]
theorem Atq (s : St) (k : Nat) : (hdS s k).known = s.known := rfl
theorem Aqi {k : Nat} (hk : k < 8) (a b : PV) (w : Nat → Int) (r : Nat → Bool) (n : Bool) : splice (a :: b :: (iE w ++ wE r)) (18 + k - 8) [.b n] = a :: b :: (iE w ++ wE (Er r k n)) := by
 rw [← Sg hk];simp only [splice, iE, wE, Cq];have hk2 : k = 0 ∨ k = 1 ∨ k = 2 ∨ k = 3 ∨ k = 4 ∨ k = 5 ∨ k = 6 ∨ k = 7 := by omega
 rcases hk2 with rfl | rfl | rfl | rfl | rfl | rfl | rfl | rfl <;> rfl
theorem Bcy (s : St) : iE (hdS s 0).wards = iE fun _ => 0 := Ato fun i hi => by simp [hdS]
theorem Bcz (s : St) : wE (hdS s 0).ret = wE fun _ => false := Apw fun i hi => by simp [hdS]
theorem A9z (s : St) (k : Nat) : Er (hdS s k).wards k (s.wards k) = (hdS s (k + 1)).wards := by
 funext i;simp only [hdS, Er];by_cases h : i = k
 · subst h; rw [if_pos rfl, if_pos (by omega)]
 · rw [if_neg h];by_cases h2 : i < k
   · rw [if_pos h2, if_pos (by omega)]
   · rw [if_neg h2, if_neg (by omega)]
theorem A90 (s : St) (k : Nat) : Er (hdS s k).ret k (s.ret k) = (hdS s (k + 1)).ret := by
 funext i;simp only [hdS, Er];by_cases h : i = k
 · subst h; rw [if_pos rfl, if_pos (by omega)]
 · rw [if_neg h];by_cases h2 : i < k
   · rw [if_pos h2, if_pos (by omega)]
   · rw [if_neg h2, if_neg (by omega)]
theorem Air {s : St} (hs : WrS s) {k : Nat} (hk : k < 8) : IntKind.i64.wrap (IntKind.u8.wrap (((Je s k).toNat : Int).tdiv 2)) = s.wards k ∧ decide (((Je s k).toNat : Int).tmod 2 = 1) = s.ret k := by
 obtain ⟨hw1, hw2⟩ := hs.wards k hk;obtain ⟨n, hn⟩ : ∃ n : Nat, s.wards k = n := ⟨(s.wards k).toNat, by omega⟩
 have hflag := La (s.ret k);have hb : ((Je s k).toNat : Int) = (n : Int) * 2 + ((Fe (s.ret k)).length : Int) := by
  unfold Je;rw [hn, Int.toNat_natCast, UInt8.toNat_ofNat'];omega
 have d1 : ((Je s k).toNat : Int).tdiv 2 = n := by rw [hb, Int.tdiv_eq_ediv_of_nonneg (by omega)]; omega
 have d2 : ((Je s k).toNat : Int).tmod 2 = ((Fe (s.ret k)).length : Int) := by rw [hb, Int.tmod_eq_emod_of_nonneg (by omega)]; omega
 rw [d1, d2, Il (by omega), Ep (by omega), hn];refine ⟨rfl, ?_⟩;cases s.ret k <;> rfl
def A1e (s : St) : FS := mk [(0, .pv (.sl false 1 (Am (Hc s)))), (2, .p 2 0), (3, .p 3 0), (4, .p 14 0), (5, .p 5 0)]
 [(14, some (Lx false (s.ents.map H3))), (5, some (.var (.agg [.vec 8 (vE s.known), .pv (.sl false 15 (s.objs.map A6)), .pv (.sl true 0 []), .vec 8 (iE s.wards), .vec 8 (wE s.ret)]))), (2, a2), (3, some (.var (.pv (.i .i64 0))))]
def A2r (s : St) (k : Nat) : FS := mk [(0, .pv (.sl false 1 (Am (Hc s)))), (2, .p 2 0), (3, .p 3 0), (4, .p 14 0), (5, .p 5 0)]
 [(14, some (Lx false ((s.ents.drop k).map H3))), (5, some (.var (.agg (Bg s (.pv (.sl false 15 (s.objs.map A6))) (.os 310))))), (310, some (.row 15 ((s.ents.take k).map Bk))), (2, a2), (3, some (.var (.pv (.i .i64 0))))]
set_option maxHeartbeats 4000000 in
theorem Axz {s : St} (hs : WrS s) (h1 : H7 s.objs) (h2 : J8 s.ents) (h3 : ∀ o ∈ s.objs, Fs o.vers) {h d} : FunOk Tryz.prog 9 [.pv (.sl false 1 (Am (Hc s)))] h d (.tup [.agg (Bb s), .pv (.i .i64 0)]) [] := by
 obtain ⟨b, hb, hd⟩ := Bcm;refine Aoc Aq fn9 hb hd Axs (by decide) (by simp) rfl rfl fun F => ?_;have hE := O5 hs.e;have hT := hs.tot;have hV := E1 hs.known;have hH := K8 s 8;have hon := hs.on;have hen := hs.en;have hL : Zd s ++ s.objs.map G4 ++ [[]] ++ s.ents.map H3 = Io s.known :: G9 s 8 :: Kw s 0 := by simp [Zd, Kw, Acm]
 (try simp only [Ak, Aj, Ai, Ah, Ag, Af, Ae, Ad]); simp (maxSteps := 10000000) (disch := omega) only [go_sem]
 intro X;refine Aa (Sr (L := Zd s ++ s.objs.map G4 ++ [[]] ++ s.ents.map H3) (by simp only [Ej, Be, Zd, List.length_nil]; omega) (fun b hb => by
  simp only [Zd, List.mem_append, List.mem_cons, List.not_mem_nil, or_false] at hb;rcases hb with (((rfl | rfl) | hb) | rfl) | hb
  · omega
  · omega
  · obtain ⟨o, ho, rfl⟩ := List.mem_map.1 hb;have := Ww (hs.o o ho); omega
  · simp
  · have := hE.2 b hb; omega)) ?_
 rw [hL];have hrl := fun k => Aya s k;have hrl0 := hrl 0
 (try simp only [Ak, Aj, Ai, Ah, Ag, Af, Ae, Ad]); simp (maxSteps := 10000000) (disch := omega) only [go_sem]
 refine Aa (Abp hs.known (by simp only [List.length_cons]; omega) rfl) ?_
 (try simp only [Ak, Aj, Ai, Ah, Ag, Af, Ae, Ad]); simp (maxSteps := 10000000) (disch := omega) only [go_sem]
 refine Aa (Jy (by omega) rfl) ?_
 (try simp only [Ak, Aj, Ai, Ah, Ag, Af, Ae, Ad]); simp (maxSteps := 10000000) (disch := omega) only [A0, hH, go_sem]
 refine A1 Aq (A2t s) (fun k => k ≤ 8) (fun k => 8 - k) 0 (by simp) (An ?_ ?_) fun k hk => ?_
 · (try simp only [Ak, Aj, Ai, Ah, Ag, Af, Ae, Ad]); simp (maxSteps := 10000000) (disch := omega) only [go_sem]
 · (try simp only [Ak, Aj, Ai, Ah, Ag, Af, Ae, Ad]); simp (maxSteps := 10000000) (disch := omega) only [Bg, Aey, Lx, Bcy, Bcz, Atq, go_sem]
 by_cases hlt : k < 8
 · have hg : (Am (G9 s 8))[k]? = some [.i .u8 (Je s k).toNat] := by
    rw [Xy _ _ (by rw [K8]; exact hlt)]; simp [G9]
   obtain ⟨q1, q3⟩ := Air hs hlt;have s1 := Wa (hdS s k) hlt (s.wards k) (.sl true 0 []) (.sl true 0 []);have s2 := fun (a b : PV) (w : Nat → Int) (r : Nat → Bool) (n : Bool) => Aqi hlt a b w r n;have e1 := A9z s k;have e2 := A90 s k
   (try simp only [Ak, Aj, Ai, Ah, Ag, Af, Ae, Ad]); simp (maxSteps := 10000000) (disch := omega) only [A2t, hg, Bg, Aey, q1, q3, s1, s2, e1, e2, go_sem]
   refine ⟨k + 1, by omega, by omega, An ?_ ?_⟩
   · (try simp only [Ak, Aj, Ai, Ah, Ag, Af, Ae, Ad]); simp (maxSteps := 10000000) (disch := omega) only [go_sem]
   · (try simp only [Ak, Aj, Ai, Ah, Ag, Af, Ae, Ad]); simp (maxSteps := 10000000) (disch := omega) only [Bg, Aey, Lx, Atq, go_sem]
     exact Alf ⟨Bh _, _, rfl, _, rfl, _, rfl, K6 _, _, rfl, Kk _, [], by simp, rfl⟩
 obtain rfl : k = 8 := by omega
 have hw8 : iE (hdS s 8).wards = iE s.wards := Ato fun i hi => by simp [hdS, hi]
 have hr8 : wE (hdS s 8).ret = wE s.ret := Apw fun i hi => by simp [hdS, hi]
 have hrl1 := hrl 1
 (try simp only [Ak, Aj, Ai, Ah, Ag, Af, Ae, Ad]); simp (maxSteps := 10000000) (disch := omega) only [A2t, Aey, go_sem]
 refine Aa (Jy (b := oHd s 0) (L := Kw s 1) (by omega) (by rw [← Ak0 (by omega)]; rfl)) ?_
 (try simp only [Ak, Aj, Ai, Ah, Ag, Af, Ae, Ad]); simp (maxSteps := 10000000) (disch := omega) only [Bg, Atq, hw8, hr8, go_sem]
 refine Sy 5 300 15 (a := [.vec 8 (vE s.known)]) (b := [.pv (.sl true 0 []), .vec 8 (iE s.wards), .vec 8 (wE s.ret)]) rfl (by decide) rfl rfl (by decide) ?_;refine A1 Aq (A2s s) (fun k => k ≤ s.objs.length) (fun k => s.objs.length - k) 0 (by simp) (An ?_ ?_) fun k hk => ?_
 · (try simp only [Ak, Aj, Ai, Ah, Ag, Af, Ae, Ad]); simp (maxSteps := 10000000) (disch := omega) only [go_sem]
 · (try simp only [Ak, Aj, Ai, Ah, Ag, Af, Ae, Ad]); simp (maxSteps := 10000000) (disch := omega) only [Bg, Lx, a2, List.take_zero, List.map_nil, go_sem]
 by_cases hlt : k < s.objs.length
 · have ho := hs.o _ (List.getElem_mem hlt);have ht : s.objs.take (k + 1) = s.objs.take k ++ [s.objs[k]] := by rw [List.take_add_one, List.getElem?_eq_getElem hlt]; rfl
   have hh := A9b hlt;generalize s.objs[k] = o at *;have hpos : 5 ≤ (G4 o).length := by
    have := Wq (Kv o ++ Ci o.vers);simp only [List.length_append, Kv, List.length_cons, List.length_nil] at this;unfold G4 Kv; omega
   have hrl2 := hrl (k + 2);have hkl : (s.objs.take k).length ≤ 100 := by simp; omega
   (try simp only [Ak, Aj, Ai, Ah, Ag, Af, Ae, Ad]); simp (maxSteps := 10000000) (disch := omega) only [A2s, hh, Bg, A0, go_sem]
   refine Aa (Amw ho) ?_
   (try simp only [Ak, Aj, Ai, Ah, Ag, Af, Ae, Ad]); simp (maxSteps := 10000000) (disch := omega) only [List.length_map, a2, Lx, go_sem]
   refine ⟨C5 o, ?_⟩;refine Aa (Jy (f := false) (b := oHd s (k + 1)) (L := Kw s (k + 2)) (by omega) (by rw [← Ak0 (by omega)]; rfl)) ?_
   (try simp only [Ak, Aj, Ai, Ah, Ag, Af, Ae, Ad]); simp (maxSteps := 10000000) (disch := omega) only [go_sem]
   refine ⟨k + 1, by omega, by omega, Cf 56 300 (by decide) rfl (An ?_ ?_)⟩
   · (try simp only [Ak, Aj, Ai, Ah, Ag, Af, Ae, Ad]); simp (maxSteps := 10000000) (disch := omega) only [go_sem]
   · (try simp only [Ak, Aj, Ai, Ah, Ag, Af, Ae, Ad]); simp (maxSteps := 10000000) (disch := omega) only [Bg, Lx, a2, ht, List.map_append, List.map_cons, List.map_nil, go_sem]
 obtain rfl : k = s.objs.length := by omega
 have hh := A9c s;have ht := List.take_length (l := s.objs)
 (try simp only [Ak, Aj, Ai, Ah, Ag, Af, Ae, Ad]); simp (maxSteps := 10000000) (disch := omega) only [A2s, hh, ht, Bg, a2, Lx, Ayb, go_sem]
 refine Ak2 (Eu 300 rfl (.same _)) ?_;refine Ak2 (s' := A1e s) (An ?_ ?_) ?_
 · (try simp only [Ak, Aj, Ai, Ah, Ag, Af, Ae, Ad]); simp (maxSteps := 10000000) (disch := omega) only [go_sem]
 · (try simp only [Ak, Aj, Ai, Ah, Ag, Af, Ae, Ad]); simp (maxSteps := 10000000) (disch := omega) only [a2, Lx, go_sem]
 refine Sy 5 310 15 (a := [.vec 8 (vE s.known), .pv (.sl false 15 (s.objs.map A6))]) (b := [.vec 8 (iE s.wards), .vec 8 (wE s.ret)]) rfl (by decide) rfl rfl (by decide) ?_;refine Asu Aq (A2r s) (fun k => k ≤ s.ents.length) (fun k => s.ents.length - k) 0 (by simp) (An ?_ ?_) fun k hk => ?_
 · (try simp only [Ak, Aj, Ai, Ah, Ag, Af, Ae, Ad]); simp (maxSteps := 10000000) (disch := omega) only [A1e, go_sem]
 · (try simp only [Ak, Aj, Ai, Ah, Ag, Af, Ae, Ad]); simp (maxSteps := 10000000) (disch := omega) only [Bg, Lx, a2, List.take_zero, List.map_nil, List.drop_zero, go_sem]
 by_cases hlt : k < s.ents.length
 · refine ⟨_, .same _, ?_⟩;have hx := hs.e _ (List.getElem_mem hlt);have ht : s.ents.take (k + 1) = s.ents.take k ++ [s.ents[k]] := by rw [List.take_add_one, List.getElem?_eq_getElem hlt]; rfl
   have hd : s.ents.drop k = s.ents[k] :: s.ents.drop (k + 1) := List.drop_eq_getElem_cons hlt;have hdl : (s.ents.drop (k + 1)).length ≤ 60 := by simp; omega
   generalize s.ents[k] = x at *;have hkl : (s.ents.take k).length ≤ 60 := by simp; omega
   (try simp only [Ak, Aj, Ai, Ah, Ag, Af, Ae, Ad]); simp (maxSteps := 10000000) (disch := omega) only [A2r, Bg, a2, Lx, hd, List.map_cons, List.length_cons, List.length_map, go_sem]
   have l1 := Cu hx.id;have l2 := Cu hx.dir;have l3 := Cu hx.obj;have l4 := E1 hx.gone;have l5 := hx.name;refine Aa (Jy (f := false) (b := H3 x) (L := (s.ents.drop (k + 1)).map H3) (by simp only [List.length_map]; omega) rfl) ?_
   (try simp only [Ak, Aj, Ai, Ah, Ag, Af, Ae, Ad]); simp (maxSteps := 10000000) (disch := omega) only [go_sem]
   refine Aa (Sr (L := [E6 x.id, E6 x.dir, x.name, E6 x.obj, Io x.gone]) (by simp only [Be]; omega) (fun b hb => by
    simp only [List.mem_cons, List.not_mem_nil, or_false] at hb;rcases hb with rfl | rfl | rfl | rfl | rfl <;> omega)) ?_
   (try simp only [Ak, Aj, Ai, Ah, Ag, Af, Ae, Ad]); simp (maxSteps := 10000000) (disch := omega) only [go_sem]
   refine Aa (Zs hx.id (by simp) rfl) ?_
   (try simp only [Ak, Aj, Ai, Ah, Ag, Af, Ae, Ad]); simp (maxSteps := 10000000) (disch := omega) only [go_sem]
   refine Aa (Zs hx.dir (by simp) rfl) ?_
   (try simp only [Ak, Aj, Ai, Ah, Ag, Af, Ae, Ad]); simp (maxSteps := 10000000) (disch := omega) only [go_sem]
   refine Aa (Jy (by simp) rfl) ?_
   (try simp only [Ak, Aj, Ai, Ah, Ag, Af, Ae, Ad]); simp (maxSteps := 10000000) (disch := omega) only [go_sem]
   refine Aa (Zs hx.obj (by simp) rfl) ?_
   (try simp only [Ak, Aj, Ai, Ah, Ag, Af, Ae, Ad]); simp (maxSteps := 10000000) (disch := omega) only [go_sem]
   refine Aa (Abp hx.gone (by simp) rfl) ?_
   (try simp only [Ak, Aj, Ai, Ah, Ag, Af, Ae, Ad]); simp (maxSteps := 10000000) (disch := omega) only [List.length_map, go_sem]
   refine ⟨k + 1, by omega, by omega, Cf 86 310 (by decide) rfl (An ?_ ?_)⟩
   · (try simp only [Ak, Aj, Ai, Ah, Ag, Af, Ae, Ad]); simp (maxSteps := 10000000) (disch := omega) only [go_sem]
   · (try simp only [Ak, Aj, Ai, Ah, Ag, Af, Ae, Ad]); simp (maxSteps := 10000000) (disch := omega) only [Bg, Lx, a2, ht, List.map_append, List.map_cons, List.map_nil, Bk, Ai3, List.cons_append, List.nil_append, go_sem]
 obtain rfl : k = s.ents.length := by omega
 have hd0 : s.ents.drop s.ents.length = [] := by simp
 have ht0 := List.take_length (l := s.ents);refine ⟨_, Eu 310 rfl (.same _), ?_⟩
 (try simp only [Ak, Aj, Ai, Ah, Ag, Af, Ae, Ad]); simp (maxSteps := 10000000) (disch := omega) only [A2r, Bg, a2, Lx, hd0, ht0, List.map_nil, go_sem]
 refine Aa (Wr hs) ?_
 (try simp only [Ak, Aj, Ai, Ah, Ag, Af, Ae, Ad]); simp (maxSteps := 10000000) (disch := omega) only [go_sem]
 refine Aa (Art hs h1 h2 h3) ?_
 (try simp only [Ak, Aj, Ai, Ah, Ag, Af, Ae, Ad]); simp (maxSteps := 10000000) (disch := omega) only [go_sem]
 refine ⟨_, .same _, ?_⟩
 (try simp only [Ak, Aj, Ai, Ah, Ag, Af, Ae, Ad]); simp (maxSteps := 10000000) (disch := omega) only [go_sem]
 exact Imp.refl _
end Go.Proofs.YtannaphhhkncoaaGreat.Fw
namespace Go.Proofs.YtannaphhhkncoaaGreat.Fw
open Go.RowKit Go.Proofs
theorem Awg {l : List Evt} {e : Evt} (h : Val l) (ha : Acc (Bv l) e) : NodE (l ++ [e]) := by
 unfold NodE;rw [List.map_append, List.nodup_append];refine ⟨h.nod, by simp, fun a hm b hb q => ?_⟩;obtain ⟨f, hf, rfl⟩ := List.mem_map.1 hm;simp at hb;exact Aly h ha f hf (by rw [q, hb])
theorem Aol {l : List Evt} (hn : NodE l) {e : Evt} (he : e ∈ l) : H2 l (A2 e) = some e := by
 unfold H2
 induction l with
 | nil => cases he
 | cons f l ih =>
   unfold NodE at hn;rw [List.map_cons, List.nodup_cons] at hn;rw [List.find?_cons];rcases List.mem_cons.1 he with rfl | he
   · simp
   · have : A2 f ≠ A2 e := fun q => hn.1 (q ▸ List.mem_map_of_mem he);rw [decide_eq_false this];exact ih hn.2 he
theorem Aom {l : List Evt} {i : Ca} (t : List Evt) (h : ∃ f ∈ l, A2 f = i) : H2 (l ++ t) i = H2 l i := by
 obtain ⟨f, hf, hi⟩ := h;unfold H2;rw [List.find?_append];cases hq : List.find? (fun e => decide (A2 e = i)) l with
 | some x => rfl
 | none => exact absurd hi (by simpa using List.find?_eq_none.1 hq f hf)
theorem Sv (l : List Evt) (e : Evt) : ∀ m : List Evt, (Ey l m e).vers = D6 l (A2 e) l :=
 Zi rfl fun m f ih => by
  rw [Sw];unfold E2;split
  · split
    · split <;> exact ih
    · split <;> exact ih
  · exact ih
theorem W4 {l : List Evt} (hn : NodE l) : H7 (Bv l).objs ∧ (Bv l).objs.length ≤ l.length ∧ ∀ o, o ∈ (Bv l).objs ↔ ∃ e ∈ l, (e.kind = 1 ∨ e.kind = 2) ∧ o = Ey l l e := R3 l.length l rfl hn
theorem Ah7 {l : List Obj} {i : Ca} {o : Obj} (h : I7 l i = some o) : o ∈ l ∧ o.id = i := ⟨List.mem_of_getElem? (L5 h).1, (L5 h).2⟩
theorem A09 {l : List Evt} {e : Evt} (h : Val l) (ha : Acc (Bv l) e) (hk : e.kind = 3 ∨ e.kind = 4 ∨ e.kind = 5 ∨ e.kind = 6 ∨ e.kind = 7) : ∃ f ∈ l, (f.kind = 1 ∨ f.kind = 2) ∧ A2 f = Cv e ∧ I7 (Bv l).objs (Cv e) = some (Ey l l f) ∧ (R9 e = true → (Ey l l f).dir = false ∧ ¬ Iq (D6 l (Cv e) l) e.base.l) := by
 have hw := ha.why;unfold Aps at hw;rw [if_neg (by omega), if_neg (by omega)] at hw;cases ho : I7 (Bv l).objs (Cv e) with
 | none => rw [ho] at hw; cases hw
 | some o =>
   rw [ho] at hw;obtain ⟨h1, h2⟩ := Ah7 ho;obtain ⟨f, hf, hk12, rfl⟩ := ((W4 h.nod).2.2 o).1 h1;have h2' : A2 f = Cv e := by rw [← Jz l f l]; exact h2
   refine ⟨f, hf, hk12, h2', rfl, fun hwr => ?_⟩;have hk3 := of_decide_eq_true hwr;simp only at hw;rw [if_neg (by omega), if_neg (by omega)] at hw;split at hw
   · cases hw
   · split at hw
     · cases hw
     · rename_i hd hm;rw [Sv, h2'] at hm;exact ⟨by simpa using hd, hm⟩
theorem Ye {l : List Evt} {e : Evt} (h : Val l) (ha : Acc (Bv l) e) (hw : R9 e = true) : ∀ b ∈ e.base.l, ∃ v, Bx (D6 l (Cv e) l) b.1 b.2 = some v ∧ ∃ g ∈ l, R9 g = true ∧ Cv g = Cv e ∧ A2 g = b ∧ v = Nd l l g := fun b hb => by
 have hk3 := of_decide_eq_true hw;obtain ⟨f, hf, hk, hi, ho, hm⟩ := A09 h ha (by omega);obtain ⟨_, hm⟩ := hm hw;cases hv : Bx (D6 l (Cv e) l) b.1 b.2 with
 | none => exact absurd ⟨b, hb, hv⟩ hm
 | some v =>
   obtain ⟨h1, h2⟩ := Aok hv;obtain ⟨g, hg, ⟨hw, ho⟩, rfl⟩ := (N8 l.length l rfl).1 h1;exact ⟨_, rfl, g, hg, hw, ho, Prod.ext h2.1 h2.2, rfl⟩
noncomputable def Awd (l : List Evt) (e : Evt) : List UInt8 := match e.base.l with
 | [] => []
 | b :: _ => Dh l l.length b
theorem Xu {e : Evt} (h : Cc e = true) (hw : R9 e = true) : e.data.length ≤ 200 := by
 have hK := Aga h;have hk := of_decide_eq_true hw;rcases hk with k | k | k
 · have h1 := hK.1;rw [Re k] at h1;simp only [Bool.and_eq_true, Eb, decide_eq_true_eq] at h1;omega
 · have h1 := hK.2;rw [A1y k] at h1;simp only [Ar, Bool.and_eq_true, Bool.or_eq_true, decide_eq_true_eq, Bool.false_eq_true, false_or, true_or] at h1;have : e.data = [] := h1.2.2.2.2.2.1;rw [this]; simp
 · have h1 := hK.1;rw [Rd k] at h1;simp only [Bool.and_eq_true, Eb, decide_eq_true_eq] at h1;omega
theorem Amc {e : Evt} (h : Cc e = true) (hw : R9 e = true) {was : List UInt8} (hl : was.length ≤ 200) : (G7 e was).length ≤ 200 := by
 have hd := Xu h hw;unfold G7;split
 · exact hd
 · split
   · unfold Acx; split
     · simp
     · rw [Af8]; omega
   · unfold L3; split
     · simp
     · rename_i h; unfold F3 at h; rw [Wp]; omega
theorem Zb {l : List Evt} (h : Val l) : ∀ g ∈ l, R9 g = true → (Dh l l.length (A2 g)).length ≤ 200 ∧ ∀ t n, l.length ≤ n → Dh (l ++ t) n (A2 g) = Dh l l.length (A2 g) := by
 induction h with
 | nil => intro g hg; cases hg
 | @snoc l e hl he hw ih =>
   have ha := Ac6.1 hw;intro g hg hgw;have hlen : (l ++ [e]).length = l.length + 1 := by simp
   rcases List.mem_append.1 hg with hg | hg
   · obtain ⟨h1, h2⟩ := ih g hg hgw;have e1 : Dh (l ++ [e]) (l ++ [e]).length (A2 g) = Dh l l.length (A2 g) := h2 [e] _ (by omega);rw [e1];refine ⟨h1, fun t n hn => ?_⟩;rw [List.append_assoc];exact h2 _ n (by omega)
   · rw [List.mem_singleton] at hg; subst hg;have key : ∀ t n, (l ++ [g]).length ≤ n → Dh ((l ++ [g]) ++ t) n (A2 g) = G7 g (Awd l g) := fun t n hn => by
      obtain ⟨n, rfl⟩ : ∃ k, n = k + 1 := ⟨n - 1, by omega⟩
      simp only [Dh];rw [Aom t ⟨g, by simp, rfl⟩, Aol (Awg hl ha) (by simp)];simp only;congr 1;unfold Awd;cases hb : g.base.l with
      | nil => rfl
      | cons b r =>
        simp only;obtain ⟨v, hv, f, hf, hfw, _, rfl, _⟩ := Ye hl ha hgw b (by rw [hb]; simp);rw [List.append_assoc];exact (ih f hf hfw).2 _ n (by omega)
     have e1 : Dh (l ++ [g]) (l ++ [g]).length (A2 g) = G7 g (Awd l g) := by
      have := key [] (l ++ [g]).length (Nat.le_refl _)
      rwa [List.append_nil] at this
     rw [e1];refine ⟨Amc ha.ck hgw ?_, key⟩;unfold Awd;cases hb : g.base.l with
     | nil => simp
     | cons b r =>
       simp only;obtain ⟨v, hv, f, hf, hfw, _, rfl, _⟩ := Ye hl ha hgw b (by rw [hb]; simp);exact (ih f hf hfw).1
theorem Nr {l : List Evt} (h : NodE l) (obj : Ca) : Fs (D6 l obj l) ∧ (D6 l obj l).length ≤ l.length ∧ ∀ v, v ∈ D6 l obj l ↔ ∃ e ∈ l, (R9 e = true ∧ Cv e = obj) ∧ v = Nd l l e := ⟨(Im l.length l rfl h).1, (Im l.length l rfl h).2, fun v => N8 l.length l rfl⟩
end Go.Proofs.YtannaphhhkncoaaGreat.Fw
namespace Go.Proofs.YtannaphhhkncoaaGreat.Fw
open Go.RowKit Go.Proofs
theorem Ap1 {l : List Evt} (h : Val l) (hn : l.length ≤ 400) : StIn (Bv l) := by
 obtain ⟨s1, l1, m1⟩ := W4 h.nod;have hv : ∀ o ∈ (Bv l).objs, ∃ f ∈ l, o.vers = D6 l (A2 f) l := fun o ho => by
  obtain ⟨f, hf, _, rfl⟩ := (m1 o).1 ho;exact ⟨f, hf, Sv l f l⟩
 have hs := (Zv (l := l) l h.nod).1;refine ⟨⟨⟨by omega, fun o ho => ?_, ?_⟩, s1, ?_⟩, fun o ho => ?_, fun o ho v hq => ?_, fun o ho v hq => ?_⟩
 · obtain ⟨f, hf, e⟩ := hv o ho;rw [e]; have := (Nr h.nod (A2 f)).2.1; omega
 · rw [O9]; have := O6 l l.length l rfl; omega
 · rw [O9]; exact hs
 · obtain ⟨f, hf, e⟩ := hv o ho;rw [e]; exact (Nr h.nod (A2 f)).1
 · obtain ⟨f, hf, e⟩ := hv o ho;rw [e] at hq;obtain ⟨g, hg, hc, rfl⟩ := ((Nr h.nod (A2 f)).2.2 v).1 hq;exact (Zb h g hg hc.1).1
 · obtain ⟨f, hf, e⟩ := hv o ho;rw [e] at hq;obtain ⟨g, hg, hc, rfl⟩ := ((Nr h.nod (A2 f)).2.2 v).1 hq;rw [Lg];exact h.has.2 ⟨g, hg, rfl⟩
theorem Xt {e : Evt} (h : Cc e = true) (hw : R9 e = false) : e.base.l = [] ∧ e.data = [] := by
 obtain ⟨b1, b2, b3, b4, b5, b6, b7⟩ := Hl h;have hz := (Aga h).2;have hk : ¬ (e.kind = 3 ∨ e.kind = 4 ∨ e.kind = 5) := of_decide_eq_false hw;have h4 : e.kind = 1 ∨ e.kind = 2 ∨ e.kind = 6 ∨ e.kind = 7 ∨ e.kind = 8 ∨ e.kind = 9 := by omega
 rcases h4 with k | k | k | k | k | k
 · skip
   rw [A10 k] at hz; simp only [Ar, Bool.and_eq_true, Bool.or_eq_true, decide_eq_true_eq, Bool.false_eq_true, false_or, true_or, true_and] at hz;exact ⟨List.length_eq_zero_iff.1 (by omega), hz.2.2.2.2.1⟩
 · skip
   rw [A1z k] at hz; simp only [Ar, Bool.and_eq_true, Bool.or_eq_true, decide_eq_true_eq, Bool.false_eq_true, false_or, true_or, true_and] at hz;exact ⟨List.length_eq_zero_iff.1 (by omega), hz.2.2.2.2.1⟩
 · skip
   rw [A1x k] at hz; simp only [Ar, Bool.and_eq_true, Bool.or_eq_true, decide_eq_true_eq, Bool.false_eq_true, false_or, true_or, true_and] at hz;exact ⟨List.length_eq_zero_iff.1 (by omega), hz.2.2.2.1⟩
 · skip
   rw [A1w k] at hz; simp only [Ar, Bool.and_eq_true, Bool.or_eq_true, decide_eq_true_eq, Bool.false_eq_true, false_or, true_or, true_and] at hz;exact ⟨List.length_eq_zero_iff.1 (by omega), hz.2.2.1⟩
 · skip
   rw [A1v k] at hz; simp only [Ar, Bool.and_eq_true, Bool.or_eq_true, decide_eq_true_eq, Bool.false_eq_true, false_or, true_or, true_and] at hz;exact ⟨List.length_eq_zero_iff.1 (by omega), hz.2.2.2.2.2.1⟩
 · skip
   rw [A1u k] at hz; simp only [Ar, Bool.and_eq_true, Bool.or_eq_true, decide_eq_true_eq, Bool.false_eq_true, false_or, true_or, true_and] at hz;exact ⟨List.length_eq_zero_iff.1 (by omega), hz.2.2.2.2.2.1⟩
def rkL (l : List Evt) (e : Evt) : Nat := l.findIdx fun x => decide (A2 x = A2 e)
theorem Aas {l : List Evt} (h : Val l) (hn : l.length ≤ 400) : EvsOk l (rkL l) := by
 refine ⟨hn, h.nod, fun e he => ?_, fun e he h5 b t hb e' hf => ?_, fun e he => ?_⟩
 · obtain ⟨a, c, _, _, hv, h3⟩ := h.mem he;refine ⟨hv, ?_⟩;by_cases hw : R9 e = true
   · have := Xu h3.ck hw; omega
   · rw [(Xt h3.ck (by simpa using hw)).2]; simp
 · obtain ⟨a, c, rfl, h1, hv, h3⟩ := h.mem he;by_cases hw : R9 e = true
   · obtain ⟨_, _, g, hg, _, _, hi, _⟩ := Ye h1 h3 hw b (by rw [hb]; simp);have hi' : A2 e' = b := by simpa using List.find?_some hf
     have e1 : rkL (a ++ e :: c) e' < a.length := by
      unfold rkL;rw [List.findIdx_append];have : List.findIdx (fun x => decide (A2 x = A2 e')) a < a.length := List.findIdx_lt_length_of_exists ⟨g, hg, by simp [hi, hi']⟩;rw [if_pos this]; exact this
     have e2 : a.length ≤ rkL (a ++ e :: c) e := by
      unfold rkL;rw [List.findIdx_append];have : ¬ List.findIdx (fun x => decide (A2 x = A2 e)) a < a.length := fun q => by
       have := List.findIdx_getElem (w := q);simp only [decide_eq_true_eq] at this;exact Aly h1 h3 _ (List.getElem_mem _) this
      rw [if_neg this]; omega
     omega
   · rw [(Xt h3.ck (by simpa using hw)).1] at hb; cases hb
 · exact List.findIdx_lt_length_of_exists ⟨e, he, by simp⟩
theorem Aar {l : List Evt} (h : Val l) : ∀ e ∈ l, 1 ≤ e.rep ∧ e.rep ≤ 8 := fun e he => by
 obtain ⟨a, c, _, _, hv, h3⟩ := h.mem he;exact ⟨(Hl h3.ck).1, (Hl h3.ck).2.1⟩
open Classical in
noncomputable def Ap9 (out : List Evt) (e : Evt) : List Evt := if Pe (Bv out) e = 0 then out ++ [e] else out
noncomputable def Kn (l : List Evt) : List Evt := l.foldl Ap9 []
theorem V2 (l : List Evt) (e : Evt) : Kn (l ++ [e]) = Ap9 (Kn l) e := by simp [Kn]
theorem V3 : ∀ l : List Evt, (∀ e ∈ l, ev e) → Val (Kn l) ∧ (Kn l).length ≤ l.length ∧ ∀ e ∈ Kn l, e ∈ l :=
 Zi (fun _ => ⟨Val.nil, Nat.le_refl _, fun e he => by cases he⟩) fun l e ih hl => by
  obtain ⟨h1, h2, h3⟩ := ih fun f hf => hl f (List.mem_append_left _ hf);rw [V2];unfold Ap9;split
  · rename_i hw;refine ⟨Val.snoc h1 (hl e (by simp)) hw, by simp only [List.length_append, List.length_singleton]; omega, fun f hf => ?_⟩;rcases List.mem_append.1 hf with hf | hf
    · exact List.mem_append_left _ (h3 f hf)
    · exact List.mem_append_right _ hf
  · exact ⟨h1, by simp only [List.length_append, List.length_singleton]; omega, fun f hf => List.mem_append_left _ (h3 f hf)⟩
theorem K9 {α β : Type} {p : α → Prop} {f : α → β → α} : ∀ {m : List β} {a : α}, (∀ a e, e ∈ m → p a → p (f a e)) → p a → p (m.foldl f a)
 | [], a, _, h => h
 | e :: m, a, hf, h => K9 (m := m) (fun a g hg => hf a g (List.mem_cons_of_mem _ hg)) (hf a e List.mem_cons_self h)
theorem Ap2 {l : List Evt} (h : Val l) {e : Evt} (he : e ∈ l) : Good e := by
 obtain ⟨a, c, _, _, _, h3⟩ := h.mem he;exact Yx h3.ck
theorem Aj1 : Mv fun _ => 0 := fun i _ => by simp
theorem Qn {v : Vc} {r : Int} {q : Nat} (h : Mv v) (hq : q ≤ 1048576) : Mv (Br v r q) := fun i hi => by
 unfold Br;split
 · unfold Er;split
   · rename_i hr _;have := h (r - 1).toNat (by omega);omega
   · exact h i hi
 · exact h i hi
theorem O0 {e : Evt} (g : Good e) : Ez (A2 e) := ⟨by have := g.base.1; simp only [A2]; omega, by have := g.base.2.1; simp only [A2]; omega, by have := g.base.2.2.2.1; simp only [A2]; omega⟩
theorem As6 {l : List Evt} (h : ∀ e ∈ l, Good e) : Mv (Dg l) := K9 (fun a e he ha => Qn ha (h e he).base.2.2.2.1) Aj1
theorem A92 {l : List Evt} (h : ∀ e ∈ l, Good e) (o i : Ca) : Mv (gvG l o i) := K9 (fun a e he ha => by split; exact Qn ha (h e he).base.2.2.2.1; exact ha) Aj1
theorem Bay {l : List Evt} (h : ∀ e ∈ l, Good e) (o i : Ca) : Mv (byG l o i) := K9 (fun a e he ha => by split; exact Qn ha (h e he).base.2.2.2.1; exact ha) Aj1
theorem Apv {l : List Evt} (h : ∀ e ∈ l, Good e) : ∀ i, i < 8 → 0 ≤ (Bv l).wards i ∧ (Bv l).wards i ≤ 100 :=
 K9 (p := fun p : St × Vc => ∀ i, i < 8 → 0 ≤ p.1.wards i ∧ p.1.wards i ≤ 100) (fun p e he hp => by
  unfold Dw;have hw := (h e he).ward;split
  · exact hp
  · split
    · split
      · intro i hi;simp only [Qs, Er];split
        · omega
        · exact hp i hi
      · exact hp
    · split
      · exact hp
      · exact hp) (fun i hi => by simp)
structure OiP (o : Obj) : Prop where
 last : Ez o.last
 name : o.name.length ≤ 1000
 seen : Mv o.seen
theorem A4e {l : List Evt} (h : ∀ e ∈ l, Good e) {f : Evt} (hf : f ∈ l) : OiP (Ey l l f) :=
 K9 (p := OiP) (fun o e he ho => by
  have g := h e he;unfold E2;split
  · split
    · split
      · exact ⟨O0 g, by have := g.name; simp only; omega, ho.seen⟩
      · exact ho
    · split
      · refine ⟨ho.last, ho.name, fun i hi => ?_⟩;have h1 := ho.seen i hi;have h2 := Qn (v := e.dep) (r := e.rep) (q := e.seq) (fun i hi => by have := g.dep i hi; omega) g.base.2.2.2.1 i hi;simp only [Ei]; omega
      · exact ho
  · exact ho) ⟨O0 (h f hf), by have := (h f hf).name; simp only; omega, Aj1⟩
def Aim (e : Evt) : Bool := decide (e.kind = 1 ∨ e.kind = 2)
theorem Apx (l : List Evt) (obj : Ca) : ∀ m : List Evt, (D6 l obj m).length ≤ m.countP R9 :=
 Zi (Nat.le_refl _) fun m e ih => by
  rw [Lk, List.countP_append];split
  · rename_i hc;rw [Aan];have : List.countP R9 [e] = 1 := by simp [hc.1]
    omega
  · omega
theorem Ar7 (l : List Evt) : ∀ m : List Evt, (Hp l m).1.objs.length ≤ m.countP Aim :=
 Zi (by simp [Hp]) fun m e ih => by
  rw [Pa, List.countP_append];unfold Dw;split
  · rename_i hc;simp only [Afg];have : List.countP Aim [e] = 1 := by simp [Aim, hc]
    omega
  · split
    · split
      · simp only [Qs]; omega
      · omega
    · split
      · simp only [Aeh]; omega
      · omega
theorem Az8 (l : List Evt) : l.countP R9 + l.countP Aim ≤ l.length := by
 induction l with
 | nil => simp
 | cons e l ih =>
   simp only [List.countP_cons, List.length_cons];have : ¬ (R9 e = true ∧ Aim e = true) := fun ⟨h1, h2⟩ => by
    have h1 := of_decide_eq_true h1;have h2 := of_decide_eq_true h2;omega
   by_cases h1 : R9 e = true
   · have h2 : ¬ Aim e = true := fun h2 => this ⟨h1, h2⟩;simp only [h1, h2]; simp; omega
   · simp only [h1]; simp; split <;> omega
theorem Am1 {L : List Obj} {m : Nat} (h : ∀ o ∈ L, WrO o ∧ o.vers.length ≤ m) : Be (L.map G4) ≤ L.length * (1300 + 400 * m) := by
 induction L with
 | nil => simp [Be]
 | cons o L ih =>
   obtain ⟨h1, h2⟩ := h o List.mem_cons_self;have ih := ih fun x hx => h x (List.mem_cons_of_mem _ hx);have p1 := (Iw h1).1;have p2 := (Gc h1.v).1;have p3 := Hh (Kv o ++ Ci o.vers);rw [Ej] at p3;have p4 : 400 * o.vers.length ≤ 400 * m := Nat.mul_le_mul_left _ h2;have p5 : (G4 o).length = (Cz (Kv o ++ Ci o.vers)).length := rfl;obtain ⟨K, hK⟩ : ∃ K, K = 1300 + 400 * m := ⟨_, rfl⟩
   rw [← hK] at ih ⊢;simp only [List.map_cons, Be, List.length_cons, Nat.add_one_mul];omega
theorem Asm : ∀ n, n ≤ 30 → n * (1300 + 400 * (30 - n)) ≤ 200000 := by decide
theorem Ap0 {l : List Evt} (h : Val l) (hn : l.length ≤ 30) : WrS (Bv l) := by
 have hg : ∀ e ∈ l, Good e := fun e he => Ap2 h he;obtain ⟨s1, l1, m1⟩ := W4 h.nod;have hcs := Az8 l;have hoc : (Bv l).objs.length ≤ l.countP Aim := Ar7 l l;have hO : ∀ o ∈ (Bv l).objs, WrO o ∧ o.vers.length ≤ l.countP R9 := fun o ho => by
  obtain ⟨f, hf, _, rfl⟩ := (m1 o).1 ho;have p := A4e hg hf;have hv := Sv l f l;obtain ⟨v1, v2, v3⟩ := Nr h.nod (A2 f);have hvc := Apx l (A2 f) l;rw [hv];refine ⟨⟨by rw [Jz]; exact O0 (hg f hf), p.last, p.name, p.seen, by rw [hv]; omega, fun v hq => ?_⟩, hvc⟩;rw [hv] at hq;obtain ⟨g, hgl, hc, rfl⟩ := (v3 v).1 hq;exact ⟨O0 (hg g hgl), by have := (Zb h g hgl hc.1).1; simp only [Nd]; omega, A92 hg _ _⟩
 obtain ⟨e1, e2⟩ := Zv (l := l) l h.nod;refine ⟨by rw [Lg]; exact As6 hg, Apv hg, by omega, fun o ho => (hO o ho).1, by rw [O9]; have := O6 l l.length l rfl; omega, ?_, fun x hx => ?_⟩
 · have h1 := Am1 hO;have h2 : (Bv l).objs.length ≤ 30 := by omega
   have h3 := Asm _ h2;have h4 : (Bv l).objs.length * (1300 + 400 * l.countP R9) ≤ (Bv l).objs.length * (1300 + 400 * (30 - (Bv l).objs.length)) := Nat.mul_le_mul_left _ (by omega);omega
 · rw [O9] at hx;obtain ⟨e, he, hm, rfl⟩ := (e2 x).1 hx;have g := hg e he;refine ⟨O0 g, g.dir, ?_, by have := g.name; simp only [D8]; omega, Bay hg _ _⟩;show Ez (Fk e);unfold Fk;split
   · exact g.obj
   · exact O0 g
theorem Ag9 {l : List Evt} (h : Val l) (hn : l.length ≤ 400) : H7 (Bv l).objs ∧ J8 (Bv l).ents ∧ ∀ o ∈ (Bv l).objs, Fs o.vers :=
 have hi := Ap1 h hn
 ⟨hi.so, hi.se, hi.sv⟩
theorem L9 {α β γ : Type} {f : α → β} {g : α → γ} : ∀ {l m : List α}, (∀ a ∈ l, ∀ b ∈ m, f a = f b → g a = g b) → l.map f = m.map f → l.map g = m.map g
 | [], [], _, _ => rfl
 | [], _ :: _, _, h => by simp at h
 | _ :: _, [], _, h => by simp at h
 | a :: l, b :: m, k, h => by
   simp only [List.map_cons, List.cons.injEq] at h ⊢;exact ⟨k a List.mem_cons_self b List.mem_cons_self h.1, L9 (fun x hx y hy => k x (List.mem_cons_of_mem _ hx) y (List.mem_cons_of_mem _ hy)) h.2⟩
theorem Ks {x y : Ca} (hx : Ez x) (hy : Ez y) : E6 x = E6 y ↔ x = y := by
 constructor
 · intro h;have h1 := (Oi (a := [Yw x]) (b := [Yw y]) (by simpa using by have := Ox x hx; omega) (by simpa using by have := Ox y hy; omega)).1 h;have h2 : Yw x = Yw y := by simpa using h1
   rw [← Aci hx, ← Aci hy, h2]
 · rintro rfl; rfl
theorem Qo {v w : Vc} (hv : Mv v) (hw : Mv w) : Io v = Io w ↔ vE v = vE w := by
 rw [A16];exact ⟨fun h => Ad5 hv hw (by simp) h, fun h => Yp h fun _ _ => rfl⟩
theorem Aoi {a b : Bool} : Fe a = Fe b ↔ a = b := by cases a <;> cases b <;> simp [Fe]
def M7 (o : Obj) : Ca × Bool × Ca × List UInt8 × List PV × List (List PV) := (o.id, o.dir, o.last, o.name, vE o.seen, o.vers.map Ba)
def Ur (x : Ent) : Ca × Ca × List UInt8 × Ca × List PV := (x.id, x.dir, x.name, x.obj, vE x.gone)
def Aao (s t : St) : Prop := vE s.known = vE t.known ∧ iE s.wards = iE t.wards ∧ wE s.ret = wE t.ret ∧ s.ents.map Ur = t.ents.map Ur ∧ s.objs.map M7 = t.objs.map M7
theorem Apz {v w : Ver} : Ba v = Ba w ↔ (v.rep, v.seq) = (w.rep, w.seq) ∧ v.data = w.data ∧ vE v.gone = vE w.gone := by
 obtain ⟨r, q, s, g⟩ := v;obtain ⟨r', q', s', g'⟩ := w;simp [Ba, and_assoc];exact fun _ _ _ => Int.natCast_inj
theorem Adg : ∀ {l m : List Ver}, (∀ v ∈ l, Ez (v.rep, v.seq) ∧ v.data.length ≤ 300 ∧ Mv v.gone) → (∀ v ∈ m, Ez (v.rep, v.seq) ∧ v.data.length ≤ 300 ∧ Mv v.gone) → (Ci l = Ci m ↔ l.map Ba = m.map Ba)
 | [], [], _, _ => by simp
 | [], w :: m, _, _ => by simp [Ci, Aaq]
 | v :: l, [], _, _ => by simp [Ci, Aaq]
 | v :: l, w :: m, hl, hm => by
   obtain ⟨a1, a2, a3⟩ := hl v List.mem_cons_self;obtain ⟨b1, b2, b3⟩ := hm w List.mem_cons_self;have ih := Adg (l := l) (m := m) (fun x hx => hl x (List.mem_cons_of_mem _ hx)) (fun x hx => hm x (List.mem_cons_of_mem _ hx));simp only [Ci, Aaq, List.cons_append, List.nil_append, List.cons.injEq, List.map_cons, Ks a1 b1, Qo a3 b3, ih, Apz, and_assoc]
theorem Aew {o p : Obj} (ho : WrO o) (hp : WrO p) : G4 o = G4 p ↔ M7 o = M7 p := by
 have b1 := Iw ho;have b2 := Gc ho.v;have c1 := Iw hp;have c2 := Gc hp.v;unfold G4;rw [Oi (fun f hf => (List.mem_append.1 hf).elim (fun h => by have := b1.2 f h; omega) fun h => by have := b2.2 f h; omega) (fun f hf => (List.mem_append.1 hf).elim (fun h => by have := c1.2 f h; omega) fun h => by have := c2.2 f h; omega)];simp only [Kv, List.cons_append, List.nil_append, List.cons.injEq, Ks ho.id hp.id, Ks ho.last hp.last, Aoi, Qo ho.seen hp.seen, Adg ho.v hp.v, M7, Prod.mk.injEq]
theorem Af3 {x y : Ent} (hx : WrE x) (hy : WrE y) : H3 x = H3 y ↔ Ur x = Ur y := by
 have a1 := Cu hx.id;have a2 := Cu hx.dir;have a3 := Cu hx.obj;have a4 := E1 hx.gone;have a5 := hx.name;have b1 := Cu hy.id;have b2 := Cu hy.dir;have b3 := Cu hy.obj;have b4 := E1 hy.gone;have b5 := hy.name;unfold H3;rw [Oi (fun f hf => by simp only [List.mem_cons, List.not_mem_nil, or_false] at hf; rcases hf with rfl | rfl | rfl | rfl | rfl <;> omega) (fun f hf => by simp only [List.mem_cons, List.not_mem_nil, or_false] at hf; rcases hf with rfl | rfl | rfl | rfl | rfl <;> omega)];simp only [List.cons.injEq, and_true, Ks hx.id hy.id, Ks hx.dir hy.dir, Ks hx.obj hy.obj, Qo hx.gone hy.gone, Ur, Prod.mk.injEq]
theorem S9 {s t : St} (hs : WrS s) (ht : WrS t) {i : Nat} (hi : i < 8) : Je s i = Je t i ↔ s.wards i = t.wards i ∧ s.ret i = t.ret i := by
 obtain ⟨a1, a2⟩ := hs.wards i hi;obtain ⟨b1, b2⟩ := ht.wards i hi;constructor
 · intro h;have h1 := congrArg UInt8.toNat h;unfold Je at h1;rw [UInt8.toNat_ofNat', UInt8.toNat_ofNat'] at h1;have c1 := La (s.ret i);have c2 := La (t.ret i);have hf : (Fe (s.ret i)).length = (Fe (t.ret i)).length := by omega
   refine ⟨by omega, ?_⟩;cases h1 : s.ret i <;> cases h2 : t.ret i <;> rw [h1, h2] at hf <;> simp [Fe] at hf <;> rfl
 · rintro ⟨h1, h2⟩;unfold Je; rw [h1, h2]
theorem Anz {s t : St} (hs : WrS s) (ht : WrS t) : G9 s 8 = G9 t 8 ↔ iE s.wards = iE t.wards ∧ wE s.ret = wE t.ret := by
 rw [A5f, A14];unfold G9;rw [List.map_inj_left];constructor
 · intro h;exact ⟨fun i hi => ((S9 hs ht hi).1 (h i (List.mem_range.2 hi))).1, fun i hi => ((S9 hs ht hi).1 (h i (List.mem_range.2 hi))).2⟩
 · rintro ⟨h1, h2⟩ i hi;have hi := List.mem_range.1 hi;exact (S9 hs ht hi).2 ⟨h1 i hi, h2 i hi⟩
theorem Akc {E E' : List (List UInt8)} : ∀ {l m : List (List UInt8)}, (∀ x ∈ l, x ≠ []) → (∀ x ∈ m, x ≠ []) → (l ++ ([] :: E) = m ++ ([] :: E') ↔ l = m ∧ E = E')
 | [], [], _, _ => by simp
 | [], y :: m, _, h => by
   have := h y List.mem_cons_self;simp only [List.nil_append, List.cons_append, List.cons.injEq, false_and, iff_false, reduceCtorEq, not_and];intro e; exact absurd e.symm this
 | x :: l, [], h, _ => by
   have := h x List.mem_cons_self;simp only [List.nil_append, List.cons_append, List.cons.injEq, false_and, iff_false, reduceCtorEq, not_and];intro e; exact absurd e this
 | x :: l, y :: m, h, k => by
   have ih := Akc (E := E) (E' := E') (l := l) (m := m) (fun z hz => h z (List.mem_cons_of_mem _ hz)) (fun z hz => k z (List.mem_cons_of_mem _ hz));simp only [List.cons_append, List.cons.injEq, ih, and_assoc]
theorem Akz (o : Obj) : G4 o ≠ [] := fun h => by
 have h1 : ∀ L : List (List UInt8), L ≠ [] → Cz L ≠ [] := fun L hL => by
  cases L with
  | nil => exact absurd rfl hL
  | cons f l =>
    intro e;have h2 := congrArg List.length e;have h3 := Mp f;simp only [Cz, List.length_append, List.length_nil] at h2;split at h3 <;> omega
 exact h1 _ (by simp [Kv]) h
theorem Afs {s : St} (hs : WrS s) : ∀ b ∈ Zd s ++ s.objs.map G4 ++ [[]] ++ s.ents.map H3, b.length ≤ 65535 := fun b hb => by
 have hE := O5 hs.e;have hV := E1 hs.known;have hH := K8 s 8;simp only [Zd, List.mem_append, List.mem_cons, List.not_mem_nil, or_false] at hb;rcases hb with (((rfl | rfl) | hb) | rfl) | hb
 · omega
 · omega
 · obtain ⟨o, ho, rfl⟩ := List.mem_map.1 hb;have := Ww (hs.o o ho); omega
 · simp
 · have := hE.2 b hb; omega
theorem Ahg {s t : St} (hs : WrS s) (ht : WrS t) : Hc s = Hc t ↔ Aao s t := by
 unfold Hc;rw [Oi (Afs hs) (Afs ht)];have e : ∀ s : St, Zd s ++ s.objs.map G4 ++ [[]] ++ s.ents.map H3 = Io s.known :: G9 s 8 :: (s.objs.map G4 ++ ([] :: s.ents.map H3)) := fun s => by simp [Zd]
 rw [e, e, List.cons.injEq, List.cons.injEq, Qo hs.known ht.known, Anz hs ht, Akc (fun x hx => by obtain ⟨o, _, rfl⟩ := List.mem_map.1 hx; exact Akz o) (fun x hx => by obtain ⟨o, _, rfl⟩ := List.mem_map.1 hx; exact Akz o)];have eo : s.objs.map G4 = t.objs.map G4 ↔ s.objs.map M7 = t.objs.map M7 := ⟨L9 fun a ha b hb => (Aew (hs.o a ha) (ht.o b hb)).1, L9 fun a ha b hb => (Aew (hs.o a ha) (ht.o b hb)).2⟩
 have ee : s.ents.map H3 = t.ents.map H3 ↔ s.ents.map Ur = t.ents.map Ur := ⟨L9 fun a ha b hb => (Af3 (hs.e a ha) (ht.e b hb)).1, L9 fun a ha b hb => (Af3 (hs.e a ha) (ht.e b hb)).2⟩
 rw [eo, ee];unfold Aao;constructor
 · rintro ⟨h1, ⟨h2, h3⟩, h4, h5⟩; exact ⟨h1, h2, h3, h5, h4⟩
 · rintro ⟨h1, h2, h3, h5, h4⟩; exact ⟨h1, ⟨h2, h3⟩, h4, h5⟩
theorem Afz (x : Ent) : D5 [K1.int .i64, K1.int .u32, K1.int .i64, K1.int .u32, .str, K1.int .i64, K1.int .u32, .int .u32, .int .u32, .int .u32, .int .u32, .int .u32, .int .u32, .int .u32, .int .u32] (Bk x) = True := eq_true rfl
theorem A5q (v : Vc) : D5 [K1.int .u32, .int .u32, .int .u32, .int .u32, .int .u32, .int .u32, .int .u32, .int .u32] (vE v) = True := eq_true rfl
theorem A5r (v : Nat → Int) : D5 [K1.int .i64, .int .i64, .int .i64, .int .i64, .int .i64, .int .i64, .int .i64, .int .i64] (iE v) = True := eq_true rfl
theorem A5p (v : Nat → Bool) : D5 [K1.bool, .bool, .bool, .bool, .bool, .bool, .bool, .bool] (wE v) = True := eq_true rfl
theorem O4 (i : Ca) : D5 [K1.int .i64, .int .u32] [.i .i64 i.1, .i .u32 i.2] = True := eq_true rfl
end Go.Proofs.YtannaphhhkncoaaGreat.Fw
