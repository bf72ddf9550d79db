/- What the functions compute that the laws of this seat reach. -/
import Derived.Test.YtagpocgklmeoiaaWalk1
import Derived.OpenShut
import Derived.ShutString
import Derived.ChangeOld
import Derived.SizedLaws
import Derived.ChangeOld
import Derived.Lib.Bytealg
import Derived.OpenShut
import Derived.ShutString
import Derived.SizedLaws
set_option linter.unusedVariables false
set_option linter.unusedSimpArgs false
set_option linter.unusedSectionVars false
set_option maxRecDepth 100000
namespace Go.Proofs.Ytagpocgklmeoiaa.Fw
open Go.RowKit Go.Proofs
section iov
variable {P : Program}
theorem RelR.swaping {F : Fr} {N : Nat} {ρ : Nat → Value} {s : FS} {a : Go.Act} {w w' : World} (hR : RelR F N ρ s a w) (g d : Nat) (blk bd : Blk) (p : Value) (hgd : g ≠ d) (hsg : s.h g = some blk)
 (hos : w'.os = w.os) (htape : w'.tape = w.tape) (hout : w'.output = w.output) (hsize : w.heap.size ≤ w'.heap.size) (hblock : ∀ b, b < w.heap.size → Bl (ρ g) ≠ some b → w'.heap[b]? = w.heap[b]?)
 (hid : ∀ b, Bl p = some b → w.heap.size ≤ b ∧ b < w'.heap.size)
 (hown : Own w' (vw F w' (Fw.upd ρ d p) ((s.kill d).seth d (some bd))) (Fw.upd ρ d p) d bd)
 (howng : Own w' (vw F w' (Fw.upd ρ d p) ((s.kill d).seth d (some bd))) (Fw.upd ρ d p) g (blk.kill d)) :
 RelR F N (Fw.upd ρ d p) ((s.kill d).seth d (some bd)) a w' ∧ (vw F w ρ s).le (vw F w' (Fw.upd ρ d p) ((s.kill d).seth d (some bd))) := by
 have hs : ∀ m x, ((s.kill d).seth d (some bd)).h m = some x → (m = d ∧ x = bd) ∨ (m ≠ d ∧ ∃ y, s.h m = some y ∧ x = y.kill d) := by
  intro m x hm;simp only [FS.seth, FS.kill] at hm;by_cases e : m = d
  · simp only [e, if_true] at hm; cases hm; exact .inl ⟨e, rfl⟩
  · simp only [e, if_false] at hm;cases hy : s.h m with
    | none => rw [hy] at hm; cases hm
    | some y => rw [hy] at hm; cases hm; exact .inr ⟨e, y, rfl, rfl⟩
 have key : ∀ b, Bd (Fw.upd ρ d p) ((s.kill d).seth d (some bd)).h b → Bd ρ s.h b ∨ (w.heap.size ≤ b ∧ b < w'.heap.size) := by
  rintro b ⟨m, x, hm, hb⟩;rcases hs m x hm with ⟨rfl, rfl⟩ | ⟨e1, y, hy, rfl⟩
  · rw [Al] at hb; exact .inr (hid b hb)
  · rw [A3 e1] at hb; exact .inl ⟨m, y, hy, hb⟩
 have hV : (vw F w ρ s).le (vw F w' (Fw.upd ρ d p) ((s.kill d).seth d (some bd))) := A0 fun b c ho hc => by
  have hlt := Eh hc;refine ⟨fun hb => ?_, ?_⟩
  · rcases hb with hb | hb
    · rcases key b hb with h | h
      · exact ho (.inl h)
      · omega
    · exact ho (.inr hb)
  · rw [Bv (hblock b hlt fun h => ho (.inl ⟨g, blk, hsg, h⟩))]; exact hc
 refine ⟨⟨⟨hos.trans hR.fr.os, htape.trans hR.fr.tape, hout.trans hR.fr.output, Nat.le_trans hR.fr.size hsize, fun b hb hm => ?_, hR.fr.hid, hR.fr.tab⟩, fun b hb => ?_, fun m x hm => ?_, fun m k x y b hm hk hbm hbk => ?_, fun m => ?_, hR.size, hR.defers⟩, hV⟩
 · rw [hblock b (Nat.lt_of_lt_of_le hb hR.fr.size) fun h => by
    rcases hR.may b ⟨g, blk, hsg, h⟩ with h1 | h1
    · omega
    · exact hm h1]
   exact hR.fr.block b hb hm
 · rcases key b hb with h | h
   · exact hR.may b h
   · exact .inl (Nat.le_trans hR.fr.size h.1)
 · rcases hs m x hm with ⟨rfl, rfl⟩ | ⟨e1, y, hy, rfl⟩
   · exact hown
   · by_cases e2 : m = g
     · subst e2; rw [hsg] at hy; cases hy; exact howng
     · have ho := hR.own m y hy;exact (ho.congr (V' := vw F w ρ s) (w' := w') (fun _ _ x => x) (fun b hb => hblock b (ho.lt hb) fun hb' => e2 (hR.inj m g y blk b hy hsg hb hb'))).kill hV e1
 · rcases hs m x hm with ⟨rfl, rfl⟩ | ⟨e1, z, hz, rfl⟩
   · rcases hs k y hk with ⟨rfl, rfl⟩ | ⟨f1, u, hu, rfl⟩
     · rfl
     · exfalso; rw [Al] at hbm; rw [A3 f1] at hbk;have h := hid b hbm;have := (hR.own k u hu).lt hbk; omega
   · rcases hs k y hk with ⟨rfl, rfl⟩ | ⟨f1, u, hu, rfl⟩
     · exfalso; rw [Al] at hbk; rw [A3 e1] at hbm;have h := hid b hbk;have := (hR.own m z hz).lt hbm; omega
     · rw [A3 e1] at hbm; rw [A3 f1] at hbk;exact hR.inj m k z u b hz hu hbm hbk
 · show Conc _ _ ((s.t m).kill d) _;exact (hR.tmps m).kill hV
theorem Aoo (hm : P.follows .mixedOrders = true) {f N' : Nat} {rs : List Rv} {c : C} (hf : A8 P f = some (N', rs, c)) {args : List SV} {h : Nat → Option Blk} {d g : Nat} {blk : Blk} {fn : Fn} (hgd : g ≠ d) (hlen : args.length ≤ N')
 (hts : ∀ n ∈ A2 args, n = g) (hgt : g ∈ A2 args) (hg : h g = some blk) (hp : (blk.ptr g).kill g ≠ blk.ptr g) (hb' : blk.plain = true) (hkb : blk.kill d = blk) (hpp : ∀ m, blk.ptr m = blk.ptr m)
 (hrun : ∀ F, sx (Yn P F N') c (Agg rs fun y s => ∃ n m, y = .fn fn [.p n 0] ∧ s.h n = some (.var (.p m 0)) ∧ n ≠ m ∧ s.t 1000000 = blk.ptr m ∧ s.h m = some blk) (mk (Cn 0 args ++ [(1000000, blk.ptr g)]) [(g, some blk)])) :
 FunOk P f args h d (.fn fn [.p d 0]) [.new d (.var (.p g 0))] := by
 refine ⟨Cb hf, fun F N ρ s a w hR hh vs hc => ?_⟩;have hsg : s.h g = some blk := (hh g hgt).trans hg;have hvl : vs.length = args.length := by
  clear hrun hlen hts hh hgt
  induction args generalizing vs with
  | nil => simp only [ConcL] at hc; subst hc; rfl
  | cons x l ih =>
    simp only [ConcL] at hc;obtain ⟨v, us, rfl, _, h⟩ := hc;simp [ih _ h]
 let F' : Fr := ⟨w, P3 ρ s.h [g], F.out ρ (Ay s [g]).h, fun _ => ρ g, []⟩
 have hmine : ∀ b, P3 ρ s.h [g] b ↔ Bl (ρ g) = some b := fun b => by
  constructor
  · rintro ⟨n, hn, x, h1, h2⟩;simp only [List.mem_singleton] at hn; subst hn; exact h2
  · intro hb; exact ⟨g, List.mem_singleton.2 rfl, blk, hsg, hb⟩
 have hlk : ∀ n, lk none n [(g, some blk)] = if n = g then some blk else none := fun n => by simp only [lk]
 have how : ∀ b, Bd ρ (mk (Cn 0 args ++ [(1000000, blk.ptr g)]) [(g, some blk)]).h b ↔ P3 ρ s.h [g] b := fun b => by
  rw [hmine];constructor
  · rintro ⟨n, x, h1, h2⟩;simp only [mk, hlk] at h1;split at h1
    · rename_i e; subst e; exact h2
    · cases h1
  · intro hb; exact ⟨g, blk, by simp [mk, lk], hb⟩
 have hoth : ∀ b, Bd ρ (Ay s [g]).h b ↔ ∃ n, n ≠ g ∧ ∃ x, s.h n = some x ∧ Bl (ρ n) = some b := fun b => by
  constructor
  · rintro ⟨n, x, h1, h2⟩;simp only [Ay, List.mem_singleton] at h1; split at h1
    · cases h1
    · rename_i hn; exact ⟨n, hn, x, h1, h2⟩
  · rintro ⟨n, hn, x, h1, h2⟩;exact ⟨n, x, by simp only [Ay, List.mem_singleton, if_neg hn]; exact h1, h2⟩
 have hview : Ao w (F'.out ρ (mk (Cn 0 args ++ [(1000000, blk.ptr g)]) [(g, some blk)]).h) = vw F w ρ s := by
  show Ao w _ = Ao w _;congr 1;funext b;refine propext ⟨fun hb => ?_, fun hb => ?_⟩
  · rcases hb with hb | hb
    · obtain ⟨n, _, x, h1, h2⟩ := (how b).1 hb; exact .inl ⟨n, x, h1, h2⟩
    · rcases hb with hb | hb
      · obtain ⟨n, _, x, h1, h2⟩ := (hoth b).1 hb; exact .inl ⟨n, x, h1, h2⟩
      · exact .inr hb
  · rcases hb with ⟨n, x, h1, h2⟩ | hb
    · by_cases hn : n = g
      · subst hn; exact .inl ((how b).2 ((hmine b).2 h2))
      · exact .inr (.inl ((hoth b).2 ⟨n, hn, x, h1, h2⟩))
    · exact .inr (.inr hb)
 have hgl : ∀ (k : Nat) (l : List SV) (n : Nat) (t : List (Nat × SV)), (∀ i, k ≤ i → i < k + l.length → i ≠ n) → lk .dead n (Cn k l ++ t) = lk .dead n t := by
  intro k l
  induction l generalizing k with
  | nil => intro n t _; rfl
  | cons y l ih =>
    intro n t hn;simp only [Cn, List.cons_append, lk];rw [if_neg fun e => hn k (Nat.le_refl k) (by simp) e.symm];exact ih (k + 1) n t fun i h1 h2 => hn i (by omega) (by simp only [List.length_cons]; omega)
 have hap : ∀ (k : Nat) (l : List SV) (n : Nat) (t : List (Nat × SV)), k ≤ n → n < k + l.length → lk .dead n (Cn k l ++ t) = lk .dead n (Cn k l) := by
  intro k l
  induction l generalizing k with
  | nil => intro n t h1 h2; simp at h2; omega
  | cons y l ih =>
    intro n t h1 h2;simp only [Cn, List.cons_append, lk];split
    · rfl
    · exact ih (k + 1) n t (by omega) (by simp only [List.length_cons] at h2; omega)
 have hN := Nt hf;have hR0 : RelR F' N' ρ (mk (Cn 0 args ++ [(1000000, blk.ptr g)]) [(g, some blk)]) { tmps := (⟨vs⟩ : Array Value) ++ Array.replicate (N' - (⟨vs⟩ : Array Value).size) undef, defers := [] } w := by
  refine ⟨⟨rfl, rfl, rfl, Nat.le_refl _, fun _ _ _ => rfl, fun b hb => ⟨?_, fun hmi => ?_⟩, ⟨hR.tabW, fun p hp hmi => hR.tabN hp ⟨g, blk, hsg, (hmine p.1).1 hmi⟩⟩⟩, fun b hb => .inr ((how b).1 hb), fun n x hx => ?_, fun n m x y b hx hy hbx hby => ?_, fun n => ?_, by simp; omega, rfl⟩
  · rcases hb with hb | hb
    · obtain ⟨n, _, x, h1, h2⟩ := (hoth b).1 hb; exact (hR.own n x h1).lt h2
    · exact Nat.lt_of_lt_of_le (hR.fr.hid b hb).1 hR.fr.size
  · have hmb := (hmine b).1 hmi;rcases hb with hb | hb
    · obtain ⟨m, hm, y, g1, g2⟩ := (hoth b).1 hb;exact hm (hR.inj m g y blk b g1 hsg g2 hmb)
    · exact hR.shown ⟨g, blk, hsg, hmb⟩ hb
  · rw [hview];simp only [mk, hlk] at hx; split at hx
    · rename_i e; subst e; cases hx; exact hR.own _ _ hsg
    · cases hx
  · simp only [mk, hlk] at hx hy;split at hx
    · split at hy
      · rename_i e1 e2; rw [e1, e2]
      · cases hy
    · cases hx
  · rw [hview];simp only [mk];unfold Fr.val;by_cases hb : n < Ft
    · rw [if_pos hb];have he : ((⟨vs⟩ : Array Value) ++ Array.replicate (N' - (⟨vs⟩ : Array Value).size) undef).getD n undef = (vs[n]?).getD undef := by
       rw [Array.getD_eq_getD_getElem?];by_cases hn : n < vs.length
       · rw [Array.getElem?_append_left (by simpa using hn)]; simp
       · rw [Array.getElem?_append_right (by simpa using hn)];rw [List.getElem?_eq_none (by omega)];simp only [Array.getElem?_replicate, Option.getD_none];split <;> rfl
      rw [he];have := Fu 0 n hc;simp only [Nat.zero_le, if_true, Nat.sub_zero] at this;by_cases hn : n < args.length
      · rw [hap 0 args n _ (Nat.zero_le n) (by omega)]; exact this
      · rw [hgl 0 args n _ fun i h1 h2 => by omega];have : n ≠ 1000000 := fun e => by rw [e] at hb; exact Nat.lt_irrefl _ hb
        simp only [lk, if_neg this, Conc]
    · rw [if_neg hb, hgl 0 args n _ fun i h1 h2 => by omega];simp only [lk];split
      · exact Qf hp (hR.own g blk hsg)
      · simp only [Conc]
 refine Calls.mono (Jm hm hf rfl hR0.fr (fun b hb => by
  obtain ⟨n, hn, x, h1, h2⟩ := hb;exact (hR.own n x h1).lt h2) hR0 U0 (hrun F')) fun e w' he => ?_
 obtain ⟨v, ρ', s', a', y, rfl, hR', hy, n0, m, rfl, hn0, hnm, ht, hm'⟩ := he;have hadr : ρ g = ρ' m := by
  have h1 := hR'.tmps 1000000;rw [ht] at h1;have e : F'.val a' 1000000 = ρ g := by
   unfold Fr.val;rw [if_neg (show ¬ (1000000 : Nat) < Ft from Nat.lt_irrefl _)]
  rw [e] at h1;exact Xb (hpp m) hp (Qf hp (hR.own g blk hsg)) h1
 have hkeep : ∀ b, b < w.heap.size → Bl (ρ g) ≠ some b → w'.heap[b]? = w.heap[b]? := fun b hb hn => hR'.fr.block b hb fun hmi => hn ((hmine b).1 hmi);have hidp : ∀ b, Bl (ρ' n0) = some b → w.heap.size ≤ b ∧ b < w'.heap.size := fun b hb => by
  have ho : Bd ρ' s'.h b := ⟨n0, _, hn0, hb⟩
  refine ⟨?_, hR'.lt ho⟩;rcases hR'.may b ho with h1 | h1
  · exact h1
  · have h2 := (hmine b).1 h1;rw [hadr] at h2;exact absurd (hR'.inj n0 m _ _ b hn0 hm' hb h2) hnm
 have hV2 : (Ao w' (F'.out ρ' s'.h)).le (vw F w' (Fw.upd ρ d (ρ' n0)) ((s.kill d).seth d (some (.var (.p g 0))))) := A0 fun b c ho hc => ⟨fun hb => ho ?_, hc⟩
 · have hres := hR.swaping g d blk (.var (.p g 0)) (ρ' n0) hgd hsg hR'.fr.os hR'.fr.tape hR'.fr.output hR'.fr.size hkeep hidp (by
    obtain ⟨b, vs', ty, fr, u, g1, g2, g3, g4, g5, g6, g7⟩ := hR'.own n0 _ hn0;refine ⟨b, vs', ty, fr, u, by rw [Al]; exact g1, g2, g3, ?_, g5, g6, g7⟩;simp only [Conc] at g4 ⊢;rw [A3 hgd, hadr]; exact g4) (by
    rw [hkb];exact Own.closed hb' hV2 (by rw [A3 hgd]; exact hadr) (hR'.own m _ hm'))
   refine ⟨v, _, rfl, hres.1, ?_⟩;simp only [Conc, ConcL] at hy ⊢;obtain ⟨vs', h1, u, us, h2, ⟨b, h3, h4⟩, h5⟩ := hy;exact ⟨vs', h1, u, us, h2, ⟨b, by rw [Al]; exact h3, h4⟩, h5⟩
 · rcases hb with ⟨q, z, h1, h2⟩ | hb
   · simp only [FS.seth, FS.kill] at h1;by_cases hq : q = d
     · subst hq;rw [Al] at h2;exact .inl ⟨n0, _, hn0, h2⟩
     · rw [A3 hq] at h2;simp only [hq, if_false] at h1;obtain ⟨z', hz', _⟩ := Option.map_eq_some_iff.1 h1;by_cases hqg : q = g
       · subst hqg; exact .inl ⟨m, _, hm', by rw [← hadr]; exact h2⟩
       · exact .inr (.inl ((hoth b).2 ⟨q, hqg, z', hz', h2⟩))
   · exact .inr (.inr hb)
end iov
theorem FunOk.iov {P : Program} {f : Nat} {c : SV} {fn : Fn} (hf : ∀ h d, d ≠ 900 → h 900 = some (.var c) → FunOk P f [.p 900 0] h d (.fn fn [.p d 0]) [.new d (.var (.p 900 0))]) (hc : c.closed = true) {g : Nat} {h : Nat → Option Blk} {d : Nat} (hgd : g ≠ d) (hg : h g = some (.var c)) :
 FunOk P f [.p g 0] h d (.fn fn [.p d 0]) [.new d (.var (.p g 0))] := by
 have hne : Wt 900 g d ≠ 900 := fun e => by
  have := congrArg (Wt 900 g) e;rw [Gl, Rc] at this;exact hgd this.symm
 have h1 := (hf (fun k => h (Wt 900 g k)) (Wt 900 g d) hne (by show h (Wt 900 g 900) = _; rw [Rc]; exact hg)).rn (π := Wt 900 g) (Gl 900 g) (d' := d);simp only [SV.rnL, SV.rn, HU.rn, Blk.rn, List.map_cons, List.map_nil, Rc, Gl] at h1;refine h1.at fun n hn => ?_;simp only [A2, tn, List.append_nil, List.mem_singleton] at hn;subst hn;simp only [Gl, hg, Option.map_some, Blk.rn, W7 hc]
end Go.Proofs.Ytagpocgklmeoiaa.Fw
namespace Go.Proofs.Ytagpocgklmeoiaa.Fw
open Go.RowKit Go.Proofs
theorem Ah9 {f : Bool} {z : Nat} {L : List (List UInt8)} {most : Int} {g : Nat} {h d} (hgd : g ≠ d) (hg : h g = some (.var (Da f z L most))) : FunOk Try.prog 8 [.p g 0] h d (.fn (.func 18) [.p d 0]) [.new d (.var (.p g 0))] := by
 refine FunOk.iov (fun h d hd hg => ?_) rfl hgd hg;refine Aoo (g := 900) An fn8 (Ne.symm hd) (by simp) (by simp [A2, tn]) (by simp [A2, tn]) hg (by simp [Blk.ptr, SV.kill]) rfl rfl (fun _ => rfl) fun F => ?_;simp (disch := omega) only [ir8, Blk.ptr, go_sem];refine ⟨_, .same _, ?_⟩
 (try simp only [E0, Ez, Ey, Ew, Ev, Eu, Et, Er]); simp (disch := omega) only [go_sem]
 exact ⟨1, 900, rfl, rfl, by decide, rfl, rfl⟩
theorem Xq {f : Bool} {z : Nat} {es : List (List PV)} (hz : es = [] ∨ z = 1) (hn : es.length ≤ 100000) {h d} : FunOk Try.prog 19 [.pv (.sl f z es)] h d (.os d) [.new d (.row 1 es)] := by
 refine Yf An fn19 (by simp) rfl (.inl rfl) fun F => ?_;simp (disch := omega) only [ir19, hz, go_sem];intro b hb;cases b
 · simp (disch := omega) only [hz, go_sem]
 · have he : es = [] := Classical.byContradiction fun h => by cases hb h
   subst he
   (try simp only [E0, Ez, Ey, Ew, Ev, Eu, Et, Er]); simp (disch := omega) only [go_sem]
   exact Nat.one_pos
theorem Ad3 (e x : Evt) : Cg (A5 e) x = Cg e x := rfl
theorem Ad2 (l m : List Evt) : Em (l.map A5) m = Em l m := by
 unfold Em;rw [List.length_map];congr 1
 induction l generalizing m with
 | nil => rfl
 | cons e l ih =>
   cases m with
   | nil => rfl
   | cons x m => simp only [List.map_cons, List.zip_cons_cons, List.all_cons, Ad3, ih]
theorem Ad1 (m w : Msg) : El (Fc m) w = El m w := by
 show (decide (m.k = w.k) && (decide (m.fr = w.fr) && (decide (m.to = w.to) && (decide (Ze m.kn w.kn) && (decide (tEq m.tb w.tb) && Em (m.evs.map A5) w.evs))))) = _;rw [Ad2]; rfl
theorem Zz (m : Msg) : El (Fc m) m = true := by
 rw [Ad1];have h := Zy m;have e : El m (Fc m) = El m m := by
  show (decide (m.k = m.k) && (decide (m.fr = m.fr) && (decide (m.to = m.to) && (decide (Ze m.kn m.kn) && (decide (tEq m.tb m.tb) && Em m.evs (m.evs.map A5)))))) = _;have e2 : ∀ l m : List Evt, Em l (m.map A5) = Em l m := by
   intro l m;unfold Em;rw [List.length_map];congr 1
   induction l generalizing m with
   | nil => rfl
   | cons e l ih =>
     cases m with
     | nil => rfl
     | cons x m => simp only [List.map_cons, List.zip_cons_cons, List.all_cons, ih]; rfl
  rw [e2]; rfl
 rw [← e]; exact h
theorem Ab0 {P : Program} {r : Option Nat} {X : Frs} {N f n m : Nat} {cap : List SV} {ps : List Nat} {ca cb : C} {Q : Bx} {t : List (Nat × SV)} {hh : List (Nat × Option Blk)} (hne : n ≠ m) (hm : lk none m hh = none) (hc : SV.renL n m cap = cap)
 (h : (Gp P r X N).rng f cap ps ca cb Q (mk (P2 n m t) ((n, none) :: (m, (lk none n hh).map (Blk.ren n m)) :: Kc n m hh))) : (Gp P r X N).rng f cap ps ca cb Q (mk t hh) := by
 rw [← Ahm _ _ _ _ hne] at h;have hm' : (mk t hh).h m = none := hm;show Adc P r X N f cap ps ca cb Q (mk t hh);generalize mk t hh = s at *;intro assign bd g qs h1 h2 h3 h4 F ρ a w hX hR hg;refine (h : Adc P r X N f cap ps ca cb Q (s.ren n m)) assign bd g qs h1 h2 h3 h4 F (Fw.upd ρ m (ρ n)) a w hX (hR.ren hne hm') ?_;have hle : (vw F w ρ s).le (vw F w (Fw.upd ρ m (ρ n)) (s.ren n m)) := A0 fun b c ho hc => ⟨fun hb => ho (hb.imp_left fun ⟨k, x, hk, hb⟩ => by
  simp only [FS.ren] at hk;split at hk
  · rename_i e;obtain ⟨y, h1, _⟩ := Option.map_eq_some_iff.1 hk;rw [e, Al] at hb;exact ⟨n, y, h1, hb⟩
  · rename_i e;split at hk
    · cases hk
    · obtain ⟨y, h1, _⟩ := Option.map_eq_some_iff.1 hk;rw [A3 e] at hb;exact ⟨k, y, h1, hb⟩), hc⟩
 have := (hg.mono hle).ren (n := n) (m := m);simp only [SV.ren, hc] at this;exact this
theorem FunOk.same {P : Program} {f : Nat} {args : List SV} {h : Nat → Option Blk} {d g : Nat} {x : SV} {blk : Blk} (hf : FunOk P f args h d x [.upd g blk]) (hg : h g = some blk) (hin : g ∈ A2 args) : FunOk P f args h d x [] :=
 ⟨hf.1, fun F N ρ s a w hR hh vs hc => by
  have hs : s.h g = some blk := (hh g hin).trans hg;have e : s.hup [.upd g blk] = s := FS.ext' (fun _ => rfl) fun n => by
   simp only [FS.hup, FS.seth];split
   · rename_i e; rw [e]; exact hs.symm
   · rfl
  have := hf.2 F N ρ s a w hR hh vs hc;rw [e] at this;exact this⟩
end Go.Proofs.Ytagpocgklmeoiaa.Fw
namespace Go.Proofs.Ytagpocgklmeoiaa.Fw
open Go.RowKit Go.Proofs
variable {P : Program} {F : Fr} {N : Nat} {ρ ρ' : Nat → Value} {s : FS} {a : Act} {w w' : World} {V V' : View}
theorem Afc (hm : P.follows .mixedOrders = true) {f N' : Nat} {rs : List Rv} {c : C} (hf : A8 P f = some (N', rs, c)) {args : List SV} {h : Nat → Option Blk} {d : Nat} {sz : Nat} {es : List (List PV)} {X : Nat → SV} (hlen : args.length ≤ N')
 (hargs : SV.closedL args = true) (hX : ∀ (V V' : View) (ρ ρ' : Nat → Value) (n d : Nat) (v : Value), View.le V V' → ρ' d = ρ n → Conc V ρ (X n) v → Conc V' ρ' (X d) v)
 (hrun : ∀ F, sx (Yn P F N') c (Agg rs fun y g => ∃ n, y = X n ∧ g.h n = some (.row sz es)) (mk (Cn 0 args) [])) :
 FunOk P f args h d (X d) [.new d (.row sz es)] := by
 obtain ⟨h1, h2, h3⟩ := Cf hargs;refine ⟨Cb hf, fun F N ρ s a w hR hh vs hc => ?_⟩;refine Calls.mono (Df hm hf (h := h) hlen h2 U0 (by rw [h3]; exact hrun) hR hh hc) fun e w' he => ?_;obtain ⟨v, rfl, hg, N'', ρ', s', a', y, hR', hy, n, rfl, hn⟩ := he;rw [h1, Dl] at hR' hy;obtain ⟨base, cap, g1, g2, g3, g4, g5⟩ := hR'.own n _ hn;have hown : ∀ b, Bl (ρ' n) = some b → w.heap.size ≤ b ∧ b < w'.heap.size := fun b hb => by
  have ho : Bd ρ' s'.h b := ⟨n, _, hn, hb⟩
  exact ⟨(hR'.may b ho).resolve_right id, hR'.lt ho⟩
 have hle : (vw ⟨w, fun _ => False, F.out ρ s.h, fun _ => undef, []⟩ w' ρ' s').le (Ao w' (F.out (upd ρ d (ρ' n)) ((s.kill d).seth d (some (.row sz es))).h)) := A0 fun b' c' ho hc' => ⟨fun hb' => by
  rcases hb' with ⟨m, z, hm1, hm2⟩ | hb'
  · by_cases hmd : m = d
    · subst hmd;rw [Al] at hm2;exact ho (.inl ⟨n, _, hn, hm2⟩)
    · rw [A3 hmd] at hm2;simp only [FS.hup, FS.seth, FS.kill, hmd, if_false] at hm1;obtain ⟨z', hz', _⟩ := Option.map_eq_some_iff.1 hm1;exact ho (.inr (.inl ⟨m, z', hz', hm2⟩))
  · exact ho (.inr (.inr hb')), hc'⟩
 have hnew := hR.adopt hg d (.row sz es) (ρ' n) hown fun _ => by
  refine ⟨base, cap, by rw [Al]; exact g1, g2, g3, g4, fun hcap => ?_⟩;obtain ⟨b, vs', ty, fr, k1, k2, k3, k4, k5, k6⟩ := g5 hcap;exact ⟨b, vs', ty, fr, k1, k2, k3, k4, k5, fun i c hi => (k6 i c hi).mono hle⟩
 exact ⟨v, _, rfl, hnew.1, hX _ _ _ _ _ _ _ hle Al hy⟩
end Go.Proofs.Ytagpocgklmeoiaa.Fw
namespace Go.Proofs.Ytagpocgklmeoiaa.Fw
open Go.RowKit Go.Proofs
variable {P : Program}
theorem FunOk.lendR {f : Nat} {args : List SV} {h h' : Nat → Option Blk} {d n sz sz' : Nat} {z : SV} {es es' : List (List PV)} (hn : h n = some (.row sz es)) (hin : n ∈ A2 args)
 (hc : A2 (SV.frzL n (.sl false sz es) args) = []) (hzs : z.scalar = true) (hx : ∀ c ∈ es', c.all PV.flat = true) (hf : FunOk P f (SV.frzL n (.sl false sz es) args) h' d (.tup [.os d, z]) [.new d (.row sz' es')]) : FunOk P f args h d (.tup [.os d, z]) [.new d (.row sz' es')] := by
 refine ⟨hf.1, fun F N ρ s a w hR hh vs hv => ?_⟩;have hs := (hh n hin).trans hn
 let F2 : Fr := ⟨w, fun _ => False, F.out ρ (Ay s [n]).h, fun _ => undef, []⟩
 have hRb := hR.weak (Ir s [n]);have hR2 : RelR F2 0 ρ ⟨fun _ => .dead, fun _ => none⟩ ⟨#[], []⟩ w :=
  ⟨⟨rfl, rfl, rfl, Nat.le_refl _, fun _ _ _ => rfl, fun b hb => ⟨by
   rcases hb with hb | hb
   · exact hRb.lt hb
   · exact Nat.lt_of_lt_of_le (hR.fr.hid b hb).1 hR.fr.size, id⟩, ⟨hR.tabW, fun _ _ => id⟩⟩, fun b ⟨n, x, h, _⟩ => by simp at h, fun n x h => by simp at h, fun n m x y b h => by simp at h, fun n => by simp only [Conc], rfl, rfl⟩
 have hV : (vw F w ρ s).le (vw F2 w ρ ⟨fun _ => .dead, fun _ => none⟩) := A0 fun b c ho hc => ⟨fun hb => by
  rcases hb with ⟨n, x, h, _⟩ | hb
  · simp at h
  · rcases hb with ⟨k, x, h1, h2⟩ | hb
    · simp only [Ay] at h1;split at h1
      · cases h1
      · exact ho (.inl ⟨k, x, h1, h2⟩)
    · exact ho (.inr hb), hc⟩
 have hp : PConc (vw F2 w ρ ⟨fun _ => .dead, fun _ => none⟩) (.sl false sz es) (ρ n) := (L6 hR hs).mono (A0 fun b c ho hc => ⟨fun hb => by
  rcases hb with ⟨n, x, h, _⟩ | hb
  · simp at h
  · rcases hb with ⟨k, x, h1, h2⟩ | hb
    · simp only [Ay, List.mem_singleton] at h1;split at h1
      · cases h1
      · rename_i hk;exact ho (.inl ⟨k, x, by simp only [FS.seth, if_neg hk]; exact h1, h2⟩)
    · exact ho (.inr hb), hc⟩)
 refine Calls.mono (hf.2 F2 0 ρ _ _ w hR2 (by rw [hc]; simp) vs (ConcL.frz hV hp hv)) fun e w' he => ?_;obtain ⟨v, ρ', rfl, hR', hy⟩ := he;have hg : Grew w w' := ⟨hR'.fr.os, hR'.fr.tape, hR'.fr.output, hR'.fr.size, fun b hb => hR'.fr.block b hb id⟩
 have hnd : ((⟨fun _ => .dead, fun _ => none⟩ : FS).hup [.new d (.row sz' es')]).h d = some (.row sz' es') := by simp [FS.hup, FS.seth]
 generalize (⟨fun _ => .dead, fun _ => none⟩ : FS).hup [.new d (.row sz' es')] = s' at *;simp only [Conc, ConcL] at hy;obtain ⟨tv, rfl, u1, us1, rfl, hy, u2, us2, rfl, hz2, rfl⟩ := hy;obtain ⟨base, cap, g1, g2, g3, g4, g5⟩ := hR'.own d _ hnd;have hown : ∀ b, Bl (ρ' d) = some b → w.heap.size ≤ b ∧ b < w'.heap.size := fun b hb => by
  have ho : Bd ρ' s'.h b := ⟨d, _, hnd, hb⟩
  exact ⟨(hR'.may b ho).resolve_right id, hR'.lt ho⟩
 have hnew := hR.adopt hg d (.row sz' es') (ρ' d) hown fun hV => by
  refine ⟨base, cap, by rw [Al]; exact g1, g2, g3, g4, fun hcap => ?_⟩;obtain ⟨b, vs', ty, fr, k1, k2, k3, k4, k5, k6⟩ := g5 hcap;exact ⟨b, vs', ty, fr, k1, k2, k3, k4, k5, fun i c hi => Fp (hx c (List.mem_of_getElem? hi)) (k6 i c hi)⟩
 refine ⟨_, _, rfl, hnew.1, ?_⟩;simp only [Conc, ConcL];exact ⟨_, rfl, u1, _, rfl, ⟨by rw [Al]; exact hy.1, hy.2⟩, u2, _, rfl, Cy hzs hz2, rfl⟩
end Go.Proofs.Ytagpocgklmeoiaa.Fw
namespace Go.Proofs.Ytagpocgklmeoiaa.Fw
open Go.RowKit Go.Proofs
theorem Yp {V V' : View} {ρ ρ' : Nat → Value} {n d : Nat} {a b : List SV} {v : Value} (hV : V.le V') (he : ρ' d = ρ n) (ha : SV.closedL a = true) (hb : SV.closedL b = true) (h : Conc V ρ (.agg (a ++ .os n :: b)) v) : Conc V' ρ' (.agg (a ++ .os d :: b)) v := by
 simp only [Conc] at h ⊢;obtain ⟨vs, rfl, hc⟩ := h;obtain ⟨va, vb, rfl, h1, h2⟩ := Ps hc;simp only [Cells] at h2;obtain ⟨u, ub, rfl, h3, h4, h5, h6⟩ := h2;refine ⟨_, rfl, St (Gr hV ha h1) ?_⟩;simp only [Cells];refine ⟨u, ub, rfl, ?_, h4, h5, Gr hV hb h6⟩;simp only [Conc] at h3 ⊢;rw [he]; exact h3
theorem Ahq (m : Msg) (V V' : View) (ρ ρ' : Nat → Value) (n d : Nat) (v : Value) (hV : View.le V V') (he : ρ' d = ρ n) (h : Conc V ρ (.tup [.agg (C5 m (.os n)), .pv (.i .i64 0)]) v) : Conc V' ρ' (.tup [.agg (C5 m (.os d)), .pv (.i .i64 0)]) v := by
 simp only [Conc, ConcL] at h;obtain ⟨tv, rfl, u1, us1, rfl, hy, u2, us2, rfl, hz2, rfl⟩ := h;have hy' : Conc V ρ (.agg (C5 m (.os n))) u1 := by simp only [Conc]; exact hy
 have h1 := Yp (a := [.pv (.i .i64 m.k), .pv (.i .i64 m.fr), .pv (.i .i64 m.to), .vec 8 (vE m.kn), .vec 64 (tE m.tb)]) (b := []) hV he rfl rfl hy';simp only [Conc, ConcL];exact ⟨_, rfl, u1, _, rfl, by simp only [Conc] at h1; exact h1, u2, _, rfl, hz2.mono hV, rfl⟩
def Atj (k : Nat) : SV := if k = 0 then .pv (.sl true 0 []) else .os 60
def Atk (l : List Evt) (k : Nat) : Option Blk := if k = 0 then none else some (.row 21 ((l.take k).map Bw))
theorem Aj3 : Atj 0 = .pv (.sl true 0 []) := if_pos rfl
theorem Aj8 (l : List Evt) : Atk l 0 = none := if_pos rfl
theorem V3 {k : Nat} (h : 0 < k) : Atj k = .os 60 := if_neg (by omega)
theorem V4 {l : List Evt} {k : Nat} (h : 0 < k) : Atk l k = some (.row 21 ((l.take k).map Bw)) := if_neg (by omega)
def Agw (m : Msg) (l : List UInt8) (k : Nat) : FS := mk [(89, .pv (.i .i64 k)), (88, .pv (.i .i64 m.evs.length)), (87, .pv (.sl false 1 ((m.evs.map Mv).map bE))), (2, .p 2 0), (6, .p 6 0), (0, .pv (.sl false 1 (Ac l)))] [(6, some (.var (.agg (C5 m (Atj k))))), (60, Atk (m.evs.map A5) k), (2, some (.var (.agg Ahg)))]
set_option maxHeartbeats 8000000 in
theorem Ahz (m : Msg) (hm : mv m) (hc : Ci m = true) (hne : m.evs ≠ []) {h d} : FunOk Try.prog 20 [.pv (.sl false 1 (Ac (Av m)))] h d (.tup [.agg (C5 m (.os d)), .pv (.i .i64 0)]) [.new d (.row 21 ((m.evs.map A5).map Bw))] := by
 refine Afc (X := fun n => .tup [.agg (C5 m (.os n)), .pv (.i .i64 0)]) An fn20 (by simp) rfl (Ahq m) fun F => ?_;have hH := Np hc;have hE := V2 hc;obtain ⟨h1, h2, h3, h4, h5⟩ := id hm;obtain ⟨q1, q2, q3, q4, q5, q6⟩ := hH;have hfl := Jk hm hc;have hfp := Jj hm hc;have hfn := Kq m;have hpl := Fl (A1 m);have hu : B0 (Av m) [] 18 = (A1 m, 0) := It (A1 m) 18 (fun b hb => by have := hfl b hb; omega) (by omega);have hwl : (Av m).length ≤ 65502 := by unfold Av; omega
 have hel : ((A1 m).map bE).length = 10 + m.evs.length := by simp [hfn]
 have f0 : ((A1 m).map bE)[0]? = some [.sl false 1 (Ac (Gj m))] := by simp [A1, bE]
 have f1 : ((A1 m).map bE)[Int.toNat 1]? = some [.sl false 1 (Ac (A4 m.kn v0))] := by simp [A1, bE]
 have ft : ∀ k, k < 8 → ((A1 m).map bE)[2 + k]? = some [.sl false 1 (Ac (A4 (m.tb k) m.kn))] := fun k hk => by
  rw [show 2 + k = k + 1 + 1 by omega];simp only [A1, Hg, bE, List.cons_append, List.nil_append, List.map_cons, List.getElem?_cons_succ, List.map_append, List.map_map];rw [List.getElem?_append_left (by simpa using hk)];simp [hk]; rfl
 have fe : ((A1 m).map bE).drop 10 = (m.evs.map Mv).map bE := by
  have : A1 m = ([Gj m, A4 m.kn v0] ++ Hg m 8) ++ m.evs.map Mv := by simp [A1]
  rw [this, List.map_append, List.drop_left' (by simp [Hg])]
 have b0 : (Ac (Gj m))[0]? = some [.i .u8 ((UInt8.ofNat m.k.toNat).toNat : Int)] := rfl;have b1 : (Ac (Gj m))[Int.toNat 1]? = some [.i .u8 ((UInt8.ofNat m.fr.toNat).toNat : Int)] := rfl;have b2 : (Ac (Gj m))[Int.toNat 2]? = some [.i .u8 ((UInt8.ofNat m.to.toNat).toNat : Int)] := rfl;have bl : (Ac (Gj m)).length = 3 := rfl;have wb : ∀ n : Int, 0 ≤ n → n ≤ 8 → IntKind.i64.wrap ((UInt8.ofNat n.toNat).toNat : Int) = n := fun n h0 h8 => by
  rw [E3 (by omega), Int.toNat_of_nonneg h0]; exact C4 (by omega)
 have w1 := wb m.k (by omega) (by omega);have w2 := wb m.fr (by omega) (by omega);have w3 := wb m.to (by omega) (by omega);have v0ok : ∀ i, i < 8 → v0 i < 4294967296 := fun i _ => by show 0 < _; omega
 have gk := E8 m.kn v0 h4 v0ok;have gke : vE (Fg (A4 m.kn v0) v0).1 = vE m.kn := J1 gk.2;have skl := Ek m.kn v0 h4 v0ok;generalize hEE : (A1 m).map bE = E at *;simp (disch := omega) only [ir20, go_sem];refine Aa (Ng (f := false) (z := 1) (b := Av m) (most := 18) (.inr rfl) (by omega)) ?_;rw [hu, hEE]
 (try simp only [E0, Ez, Ey, Ew, Ev, Eu, Et, Er]); simp (disch := omega) only [hel, f0, b0, b1, b2, bl, w1, w2, w3, Ih, Cw, f1, go_sem]
 refine Aa (R0 v0 v0ok (by omega) rfl rfl (.inr rfl)) ?_;simp (disch := omega) only [gk.1, gke, go_sem];refine A7 An (Adp m (Av m) E) (fun k => k ≤ 8) (fun k => 8 - k) 0 (by simp) (C0 16 50 (by decide) rfl (Ar ?_ ?_)) fun k hk => ?_
 · simp (disch := omega) only [go_sem]
 · simp (disch := omega) only [go_sem];refine Lh ?_ (D8 _);rw [Ch, show tE (tbM m fun i => if i < 0 then m.tb i else v0).tb = tE (fun _ _ => 0) from Abs m.tb (fun _ => v0) rfl];rfl
 by_cases hlt : k < 8
 · have fk := ft k hlt;have en : ((2 : Int) + (k : Int)) = ((2 + k : Nat) : Int) := by omega
   have gt := E8 (m.tb k) m.kn (h5 k hlt) h4;have gte : vE (Fg (A4 (m.tb k) m.kn) m.kn).1 = vE (m.tb k) := J1 gt.2;have tl := Ek (m.tb k) m.kn (h5 k hlt) h4;have hsp := Tq m (fun i => if i < k then m.tb i else v0) hlt (m.tb k);have hkn : ∀ t, (tbM m t).kn = m.kn := fun _ => rfl;simp (disch := omega) only [Adp, hlt, en, fk, hel, Ih, hkn, go_sem];refine Aa (R0 (l := A4 (m.tb k) m.kn) m.kn h4 (by omega) rfl rfl (.inr rfl)) ?_;simp (disch := omega) only [gt.1, gte, hsp, go_sem];refine Az (k + 1) _ _ rfl (by omega) (by omega) ?_ ?_
   · simp (disch := omega) only [go_sem]
   · simp (disch := omega) only [go_sem];refine Ack ?_;rw [Ch, Ch, show tE (tbM m (J8 (fun i => if i < k then m.tb i else v0) k (m.tb k))).tb = tE (tbM m fun i => if i < k + 1 then m.tb i else v0).tb from Ra _ _ _ fun i hi => rfl];rfl
 obtain rfl : k = 8 := by omega
 have htb : tE (tbM m fun i => if i < 8 then m.tb i else v0).tb = tE m.tb := Ags _ _ (Nat.le_refl 8);have etk : List.take (10 + m.evs.length) E = E := List.take_of_length_le (by omega);have e10 : Int.toNat 10 = 10 := rfl;simp (disch := omega) only [Adp, hel, etk, e10, fe, List.length_map, go_sem];refine A7 An (Agw m (Av m)) (fun k => k ≤ m.evs.length) (fun k => m.evs.length - k) 0 (by simp) (Ar ?_ ?_) fun k hk => ?_
 · simp (disch := omega) only [go_sem]
 · simp (disch := omega) only [C5, Aj3, Aj8, go_sem];refine Acl ⟨_, rfl, _, rfl, _, rfl, H5 _, _, rfl, Oc _, [.sl true 0 []], ?_, _, rfl, rfl⟩;rw [← htb]; rfl
 by_cases hlt : k < m.evs.length
 · have he : ((m.evs.map Mv).map bE)[k]? = some [.sl false 1 (Ac (Mv m.evs[k]))] := by simp [hlt]; rfl
   have hmem := List.getElem_mem hlt;have hce := hE _ hmem;have hev := (h3 _ hmem).1;have ht : ((m.evs.map A5).take (k + 1)).map Bw = ((m.evs.map A5).take k).map Bw ++ [Bw (A5 m.evs[k])] := by
    rw [List.take_add_one, List.getElem?_eq_getElem (by simpa using hlt)]; simp
   have hvl := Bu (A5 m.evs[k]);have hkl : ((m.evs.map A5).take k).length ≤ 8 := by simp; omega
   have hkl' : (((m.evs.map A5).take k).map Bw).length ≤ 8 := by simpa using hkl
   have hz := Bu (A5 m.evs[k]);generalize m.evs[k] = e at *;generalize hN : m.evs.map A5 = N at *;have hNl : N.length = m.evs.length := by rw [← hN]; simp
   simp (disch := omega) only [Agw, C5, hlt, he, Ih, List.length_map, hN, go_sem];refine Aa (Tx e hce hev) ?_;by_cases hk0 : k = 0
   · subst hk0;rw [List.take_zero, List.map_nil, List.nil_append, Nat.zero_add] at ht;have h0 : ([Bw (A5 e)] = []) = False := by simp
     simp (disch := omega) only [Aj3, Aj8, K9, Qk, hz, h0, go_sem];have sS := V3 (k := 1) (by omega);have sK := V4 (l := N) (k := 1) (by omega);refine ⟨1, by omega, by omega, C0 105 60 (by decide) rfl (Ar ?_ ?_)⟩
     · simp (disch := omega) only [go_sem]
     · simp (disch := omega) only [ht, C5, sS, sK, hN, go_sem]
   · have sS0 := V3 (k := k) (by omega);have sK0 := V4 (l := N) (k := k) (by omega);simp (disch := omega) only [sS0, sK0, K9, Qk, hz, go_sem];have sS := V3 (k := k + 1) (by omega);have sK := V4 (l := N) (k := k + 1) (by omega);refine ⟨k + 1, by omega, by omega, C0 105 60 (by decide) rfl (Ar ?_ ?_)⟩
     · simp (disch := omega) only [go_sem]
     · simp (disch := omega) only [ht, C5, sS, sK, hN, go_sem]
 obtain rfl : k = m.evs.length := by omega
 have hpos := List.length_pos_iff.2 hne;have sS := V3 (k := m.evs.length) hpos;have sK := V4 (l := m.evs.map A5) (k := m.evs.length) hpos;have htk : (m.evs.map A5).take m.evs.length = m.evs.map A5 := List.take_of_length_le (by simp);have hcan : E4 (Fc m) = C5 m (.pv (.sl false 21 ((m.evs.map A5).map Bw))) := by
  have : m.evs.isEmpty = false := by simp [hne]
  simp only [E4, Fc, C5, this]; rfl
 simp (disch := omega) only [Agw, sS, sK, C5, htk, go_sem];refine Aa (FunOk.lendR (n := 60) (h' := fun _ => none) (z := .pv (.i .i64 0)) (sz := 21) (es := (m.evs.map A5).map Bw) rfl (by simp [A2, tn]) rfl rfl (G5 _) (Rt m hm hc (congrArg SV.agg hcan))) ?_;simp (disch := omega) only [go_sem];refine Aa (Xp (f := false) (g := false) (y := 1) (z := 1) (a := Av m) (b := Av m) rfl rfl (.inr rfl) (.inr rfl) (by omega) (by omega)) ?_
 (try simp only [E0, Ez, Ey, Ew, Ev, Eu, Et, Er]); simp (disch := omega) only [C5, go_sem]
 refine ⟨_, .same _, ?_⟩
 (try simp only [E0, Ez, Ey, Ew, Ev, Eu, Et, Er]); simp (disch := omega) only [go_sem]
 exact ⟨60, rfl, rfl⟩
abbrev Vd : SV := .pv (.v (.pointer none))
theorem Xk (i : Int) {h d} : FunOk Try.prog 23 [Vd, .pv (.i .i64 i)] h d (.pv (.i .i64 3)) [] := by
 refine Aw An fn23 (by simp) rfl rfl fun F => ?_;simp (disch := omega) only [ir23, go_sem]
theorem Xm {h d} : FunOk Try.prog 12 [Vd] h d (.pv (.i .i64 0)) [] := by
 refine Aw An fn12 (by simp) rfl rfl fun F => ?_;simp (disch := omega) only [ir12, go_sem]
theorem Qg (i : Int) {h d} : FunOk Try.prog 11 [Vd, .pv (.i .i64 i)] h d (.tup [.agg Ahg, .pv (.i .i64 3)]) [] := by
 refine Aw An fn11 (by simp) rfl rfl fun F => ?_;simp (disch := omega) only [ir11, go_sem];refine Aa (Xk i) ?_;simp (disch := omega) only [go_sem]
 try rfl
theorem Tw (i : Int) {h d} : FunOk Try.prog 10 [Vd, .pv (.i .i64 i)] h d (.tup [.agg Ahg, .pv (.i .i64 3)]) [] := by
 refine Aw An fn10 (by simp) rfl rfl fun F => ?_;simp (disch := omega) only [ir10, go_sem];refine Aa (Qg i) ?_;simp (disch := omega) only [go_sem]
 try rfl
theorem Tz (i : Int) {h d} : FunOk Try.prog 15 [Vd, .pv (.i .i64 i)] h d (.pv (.i .i64 3)) [] := by
 refine Aw An fn15 (by simp) rfl rfl fun F => ?_;simp (disch := omega) only [ir15, go_sem];refine Aa (Xk i) ?_;simp (disch := omega) only [go_sem]
theorem T0 (i : Int) {h d} : FunOk Try.prog 14 [Vd, .pv (.i .i64 i)] h d (.pv (.i .i64 3)) [] := by
 refine Aw An fn14 (by simp) rfl rfl fun F => ?_;simp (disch := omega) only [ir14, go_sem];refine Aa (Qg i) ?_;simp (disch := omega) only [go_sem]
theorem Xj (m : Msg) {h d} : FunOk Try.prog 7 [Vd, .agg (E4 m)] h d (.pv (.i .i64 3)) [] := by
 refine Aw An fn7 (by simp) rfl rfl fun F => ?_;simp (disch := omega) only [ir7, go_sem]
theorem Xu {h d} : FunOk Try.prog 8 [Vd] h d (.fn (.func 18) [.pi 1 [[.v (.pointer none)]] 0 0]) [] := by
 refine Li An fn8 (by simp) rfl rfl fun F => ?_;simp (disch := omega) only [ir8, go_sem];refine ⟨_, Abo 1 (x := Vd) (cs := [.v (.pointer none)]) rfl rfl (.same _), ?_⟩
 (try simp only [E0, Ez, Ey, Ew, Ev, Eu, Et, Er]); simp (disch := omega) only [go_sem]
def alS (M : List Msg) : SV := if M = [] then .pv (.sl true 0 []) else .os 60
def alK (M : List Msg) : Option Blk := if M = [] then none else some (.row 76 (M.map Ch))
theorem N2 : alS [] = .pv (.sl true 0 []) := if_pos rfl
theorem N3 : alK [] = none := if_pos rfl
theorem Y9 {M : List Msg} (h : M ≠ []) : alS M = .os 60 := if_neg h
theorem Za {M : List Msg} (h : M ≠ []) : alK M = some (.row 76 (M.map Ch)) := if_neg h
theorem T7 : Imp (.pv (.sl true 0 [])) (.pv (.sl false 76 [])) = True := by
 refine eq_true fun V ρ v h => ?_;simp only [Conc] at h ⊢;cases h with
 | sl _ _ _ a cap cs bl off arr hcap hfull hsz ha hcs hel =>
   exact .sl false 76 [] a cap cs bl off arr hcap (by simp) (by simp) (by simp) (by simp) (by simp)
def Rf (l : List Act) (i : Int) (x : Nat × List Msg) : FS := mk [(29, .pv (.i .i64 x.1)), (28, .pv (.i .i64 l.length)), (27, .pv (.sl false 78 (l.map Jp))), (4, .p 4 0), (5, .p 5 0), (6, .p 6 0), (1, .pv (.i .i64 i))] [(26, some (.var (Da false 1 (x.2.map Av) 60))), (5, some (.var (.p 26 0))), (6, some (.var (alS x.2))), (60, alK x.2), (4, some (.var (.pv (.b false))))]
def hpB (M : List Msg) (j : Nat) : List (Nat × Option Blk) := [(50, some (.row 1 ((M.map Av).map bE))), (26, some (.var (Da false 1 ((M.drop j).map Av) 60))), (70, some (.var (.p 26 0))), (6, some (.var (.pv (.sl false 76 (M.map Ch))))), (9, some (.var (.pv (.i .i64 j)))), (4, some (.var (.pv (.b false))))]
def Wv (l0 : Nat) (i : Int) (M : List Msg) (j : Nat) : FS := mk [(15, .pv (.i .i64 j)), (14, .pv (.i .i64 M.length)), (13, .os 50), (0, .fn (.yield l0) []), (1000000, .pv (.i .i64 0)), (1000002, .pv (.i .i64 i)), (1000005, .p 4 0), (1000006, .p 70 0), (1000007, .p 6 0), (1000010, .p 9 0)] (hpB M j)
def Wu (l0 : Nat) (i : Int) (M : List Msg) (j : Nat) (m : Msg) (X : SV) (n : Nat) (R : List (Nat × Option Blk)) (q : Nat) : FS := mk [(69, .pv (.i .i64 q)), (68, .pv (.i .i64 n)), (1, .pv (.i .i64 i)), (4, .p 4 0), (5, .p 70 0), (6, .p 6 0), (9, .p 9 0), (11, .p 11 0), (1000016, .pv (.i .i64 j)), (1000015, .pv (.i .i64 M.length)), (1000014, .os 50), (1000001, .fn (.yield l0) []), (1000028, .pv (.b true)), (2000001, .pv (.i .i64 0)), (2000003, .pv (.i .i64 i)), (2000006, .p 4 0), (2000007, .p 70 0), (2000008, .p 6 0), (2000011, .p 9 0)] ((11, some (.var (.agg (C5 m X)))) :: R ++ hpB M j)
theorem Aci (K : KK) : LoadK (some [.v (.pointer none)]) 0 1 false K = K (.pv (.v (.pointer none))) [] := by
 simp only [LoadK, Ja, eq_iff_iff];exact ⟨fun h => h.2.2, fun h => ⟨by simp, .inr trivial, h⟩⟩
theorem Ap6 : ∀ p ∈ [46, 47], p < Ft := by
 intro p hp;have : Ft = 1000000 := rfl;simp at hp; omega
set_option maxHeartbeats 16000000 in
theorem Aeq {l : List Act} {at' : Int} (hl : ∀ a ∈ l, okM a.m) {h d} : FunOk Try.prog 3 [.pv (.sl false 78 (l.map Jp)), .pv (.i .i64 at')] h d (.pv (.b true)) [] := by
 refine Aw An fn3 (by simp) rfl rfl fun F => ?_;simp (disch := omega) only [ir3, List.length_map, go_sem];refine Aa X2 ?_;simp (disch := omega) only [go_sem];refine Aa (Arz fun a ha => (hl a ha).1) ?_;cases hft : Sj l with
 | false =>
   simp (disch := omega) only [go_sem];refine Aa X2 ?_;simp (disch := omega) only [go_sem]
 | true =>
 obtain ⟨f1, f2⟩ := Aov hft;have m60 : max (0 : Int) 60 = 60 := by omega
 simp (disch := omega) only [go_sem];refine Aa (Ah2 60) ?_;rw [m60];simp (disch := omega) only [List.length_map, go_sem];refine A7 An (Rf l at') (fun x => x.1 ≤ l.length ∧ x.2.length ≤ x.1 ∧ ∀ m ∈ x.2, mv m ∧ Ci m = true) (fun x => l.length - x.1) (0, []) ⟨Nat.zero_le _, Nat.zero_le _, fun m hm => by cases hm⟩ (Ar ?_ ?_) fun x hx => ?_
 · (try simp only [E0, Ez, Ey, Ew, Ev, Eu, Et, Er]); simp (disch := omega) only [go_sem]
 · (try simp only [E0, Ez, Ey, Ew, Ev, Eu, Et, Er]); simp (disch := omega) only [Da, Ai7, List.map_nil, N2, N3, go_sem]
 obtain ⟨k, M⟩ := x;obtain ⟨hk1, hk2, hk3⟩ := hx;simp only at hk1 hk2 hk3;by_cases hlt : k < l.length
 · have he : (l.map Jp)[k]? = some (Jp l[k]) := by simp [hlt]
   have hmem := List.getElem_mem hlt;have hmv := Aw2 (f2 _ hmem) (hl _ hmem);generalize l[k] = a at *;have hMl : (M.map Av).length ≤ 40 := by simp; omega
   by_cases hc : Ci a.m = true
   · have hgA : ∀ m ∈ M ++ [a.m], mv m ∧ Ci m = true := fun m hm => (List.mem_append.1 hm).elim (hk3 m) fun h => by rw [List.mem_singleton.1 h]; exact ⟨hmv, hc⟩
     have hne : M ++ [a.m] ≠ [] := by simp
     have sS := Y9 hne;have sK := Za hne;have em : M.map Ch ++ [Ch a.m] = (M ++ [a.m]).map Ch := by simp
     have hml := D8 a.m;have sS1 := Y9 (M := [a.m]) (by simp);have sK1 := Za (M := [a.m]) (by simp);by_cases hM : M = []
     · subst hM;simp (disch := omega) only [Rf, N2, N3, List.length_map, he, go_sem];refine Aa (Z8 a.m hmv hc (by omega) (.inr rfl) (by omega) rfl) ?_;rw [show ([] : List Msg).map Av ++ [Av a.m] = ([] ++ [a.m]).map Av by simp];simp (disch := omega) only [hml, go_sem];refine ⟨fun _ => trivial, (k + 1, [] ++ [a.m]), ⟨by show k + 1 ≤ _; omega, by show _ ≤ k + 1; simp, hgA⟩, by show _ - (k + 1) < _ - k; omega, C0 42 60 (by decide) rfl (Ar ?_ ?_)⟩
       · (try simp only [E0, Ez, Ey, Ew, Ev, Eu, Et, Er]); simp (disch := omega) only [go_sem]
       · (try simp only [E0, Ez, Ey, Ew, Ev, Eu, Et, Er]); simp (disch := omega) only [sS1, sK1, List.map_cons, List.map_nil, go_sem]
     · have sS0 := Y9 hM;have sK0 := Za hM;simp (disch := omega) only [Rf, sS0, sK0, List.length_map, he, go_sem];refine Aa (Z8 a.m hmv hc (by omega) (.inr rfl) (by omega) rfl) ?_;rw [show M.map Av ++ [Av a.m] = (M ++ [a.m]).map Av by simp];simp (disch := omega) only [hml, List.length_map, em, go_sem];refine ⟨(k + 1, M ++ [a.m]), ⟨by show k + 1 ≤ _; omega, by show (M ++ [a.m]).length ≤ k + 1; simp; omega, hgA⟩, by show _ - (k + 1) < _ - k; omega, C0 42 60 (by decide) rfl (Ar ?_ ?_)⟩
       · (try simp only [E0, Ez, Ey, Ew, Ev, Eu, Et, Er]); simp (disch := omega) only [go_sem]
       · (try simp only [E0, Ez, Ey, Ew, Ev, Eu, Et, Er]); simp (disch := omega) only [sS, sK, go_sem]
   · have hc' : Ci a.m = false := by simpa using hc
     by_cases hM : M = []
     · subst hM;simp (disch := omega) only [Rf, N2, N3, List.length_map, he, go_sem];refine Aa (Ry a.m hmv hc' rfl) ?_;simp (disch := omega) only [go_sem];refine Az (x := (k, [])) (k + 1, []) _ _ rfl ⟨by show k + 1 ≤ _; omega, by show _ ≤ k + 1; simp, hk3⟩ (by show _ - (k + 1) < _ - k; omega) ?_ ?_
       · (try simp only [E0, Ez, Ey, Ew, Ev, Eu, Et, Er]); simp (disch := omega) only [go_sem]
       · (try simp only [E0, Ez, Ey, Ew, Ev, Eu, Et, Er]); simp (disch := omega) only [N2, N3, go_sem]
     · have sS0 := Y9 hM;have sK0 := Za hM;simp (disch := omega) only [Rf, sS0, sK0, List.length_map, he, go_sem];refine Aa (Ry a.m hmv hc' rfl) ?_;simp (disch := omega) only [go_sem];refine Az (x := (k, M)) (k + 1, M) _ _ rfl ⟨by show k + 1 ≤ _; omega, by show M.length ≤ k + 1; omega, hk3⟩ (by show _ - (k + 1) < _ - k; omega) ?_ ?_
       · (try simp only [E0, Ez, Ey, Ew, Ev, Eu, Et, Er]); simp (disch := omega) only [go_sem]
       · (try simp only [E0, Ez, Ey, Ew, Ev, Eu, Et, Er]); simp (disch := omega) only [sS0, sK0, go_sem]
 obtain rfl : k = l.length := by omega
 have hM40 : M.length ≤ 40 := by omega
 have hMl : (M.map Av).length ≤ 40 := by simp; omega
 by_cases hM : M = []
 · subst hM;simp (disch := omega) only [Rf, N2, N3, List.length_map, go_sem];refine Aa (Ah9 (by decide) rfl) ?_;simp (disch := omega) only [go_sem];refine Ab0 (n := 5) (m := 70) (by decide) rfl rfl ?_;simp (disch := omega) only [go_sem];refine Rn An fn18 (by simp) fun l0 XI hc => ?_;rw [Ks _ _ _ (by show 2 ≤ 1000000; omega)];simp (disch := omega) only [ir18, Da, go_sem];refine Aa (Xq (.inr rfl) (by simp <;> omega)) ?_;simp (disch := omega) only [List.length_map, go_sem];refine A7 An (Wv l0 at' ([] : List Msg)) (fun j => j ≤ (([] : List Msg)).length) (fun j => (([] : List Msg)).length - j) 0 (by simp) (C0 13 50 (by decide) rfl (Ar ?_ ?_)) fun j hj => ?_
   · simp (disch := omega) only [go_sem]
   · simp (disch := omega) only [hpB, Da, List.drop_zero, List.map_nil, T7, go_sem]
   obtain rfl : j = 0 := by simpa using hj
   simp (disch := omega) only [Wv, hpB, List.length_nil, List.length_map, List.drop_nil, List.map_nil, go_sem];refine Aa (Qg at') ?_;simp (disch := omega) only [go_sem];refine Aa (Tw at') ?_;simp (disch := omega) only [go_sem];refine Aa Xu ?_;simp (disch := omega) only [go_sem];refine Rn An fn18 (by simp) fun l0 XI hc => ?_;rw [Ks _ _ _ (by show 2 ≤ 1000000; omega)];simp (disch := omega) only [ir18, List.getElem?_cons_zero, Aci, go_sem];refine Aa ((Aab (L := []) rfl).same rfl (by simp [A2, tn])) ?_;simp (disch := omega) only [List.length_nil, go_sem];refine Aa (Acb 1 2) ?_;simp (disch := omega) only [go_sem];refine Aa (Xj (Lp 1 2)) ?_;simp (disch := omega) only [go_sem];refine Aa (T0 at') ?_;simp (disch := omega) only [go_sem];refine Aa (Tz at') ?_;simp (disch := omega) only [go_sem];refine Aa Xm ?_;simp (disch := omega) only [go_sem]
 · have sS0 := Y9 hM;have sK0 := Za hM;simp (disch := omega) only [Rf, sS0, sK0, List.length_map, go_sem];refine Aa (Ah9 (by decide) rfl) ?_;simp (disch := omega) only [go_sem];refine Ab0 (n := 5) (m := 70) (by decide) rfl rfl ?_;simp (disch := omega) only [go_sem];refine Rn An fn18 (by simp) fun l0 XI hc => ?_;rw [Ks _ _ _ (by show 2 ≤ 1000000; omega)];simp (disch := omega) only [ir18, Da, go_sem];refine Aa (Xq (.inr rfl) (by simp <;> omega)) ?_;simp (disch := omega) only [List.length_map, go_sem];refine A7 An (Wv l0 at' M) (fun j => j ≤ (M).length) (fun j => (M).length - j) 0 (by simp) (C0 13 50 (by decide) rfl (J0 60 rfl (Ar ?_ ?_))) fun j hj => ?_
   · simp (disch := omega) only [go_sem]
   · simp (disch := omega) only [hpB, Da, List.drop_zero, List.map_nil, T7, go_sem]
   by_cases hltj : j < M.length
   · have hmj : M[j]? = some M[j] := List.getElem?_eq_getElem hltj;have hm := hk3 _ (List.getElem_mem hltj);have hdj : M.drop j = M[j] :: M.drop (j + 1) := List.drop_eq_getElem_cons hltj;generalize M[j] = m at *;have hej : ((M.map Av).map bE)[j]? = some [.sl false 1 (Ac (Av m))] := by rw [List.getElem?_map, List.getElem?_map, hmj]; rfl
     have hme : (M.map Ch)[j]? = some (Ch m) := by rw [List.getElem?_map, hmj]; rfl
     have hsm := Zz m;have hge : ¬ (M.length : Int) ≤ (j : Int) := by omega
     have hdr : ((M.drop j).map Av)[0]? = some (Av m) := by rw [hdj]; rfl
     have htk : ((M.drop j).map Av).take 0 ++ ((M.drop j).map Av).drop (0 + 1) = (M.drop (j + 1)).map Av := by rw [hdj]; rfl
     have hbl : ((M.drop j).map Av).length ≤ 1000 := by simp; omega
     simp (disch := omega) only [Wv, hpB, List.length_map, hej, Ih, go_sem];by_cases hev : m.evs = []
     · have hcan : E4 (Fc m) = C5 m (.pv (.sl true 0 [])) := by simp [E4, Fc, C5, hev]
       have hrd := fun h d => Ab7 m hm.1 hm.2 (h := h) (d := d);have hsa := fun h d => Xi (Fc m) m (Aad hm.1) hm.1 (h := h) (d := d);rw [hcan] at hrd hsa;rw [hsm] at hsa;refine Aa (hrd _ _) ?_;simp (disch := omega) only [C5, go_sem];refine Q0 An hc ?_ rfl fun XA XB => ?_
       · simp (disch := omega) only [go_sem]
       rw [Ka _ _ _ _ Ap6];simp (disch := omega) only [List.length_map, hge, hme, go_sem];refine Aa (hsa _ _) ?_;simp (disch := omega) only [go_sem];refine A7 An (Wu l0 at' M j m (.pv (.sl true 0 [])) 0 []) (fun q => q = 0) (fun _ => 0) 0 rfl (Ar ?_ ?_) fun q hq => ?_
       · simp (disch := omega) only [go_sem]
       · simp (disch := omega) only [hpB, Da, C5, List.cons_append, List.nil_append, go_sem]
       subst hq;simp (disch := omega) only [Wu, hpB, C5, List.cons_append, List.nil_append, go_sem];refine Aa (Ab6 (.inr rfl) hdr hm.1 hm.2 hbl rfl) ?_;rw [htk];simp (disch := omega) only [go_sem];refine Az (x := j) (j + 1) _ _ rfl (by omega) (by omega) ?_ ?_
       · simp (disch := omega) only [go_sem]
       · simp (disch := omega) only [hpB, go_sem]
     · have hrd := fun h d => Ahz m hm.1 hm.2 hev (h := h) (d := d);refine Aa (hrd _ _) ?_;simp (disch := omega) only [C5, go_sem];refine Q0 An hc ?_ rfl fun XA XB => ?_
       · simp (disch := omega) only [go_sem]
       rw [Ka _ _ _ _ Ap6];simp (disch := omega) only [List.length_map, hge, hme, go_sem];have hcan : E4 (Fc m) = C5 m (.pv (.sl false 21 ((m.evs.map A5).map Bw))) := by
        have : m.evs.isEmpty = false := by simp [hev]
        simp only [E4, Fc, C5, this]; rfl
       have hsa := fun h d => Xi (Fc m) m (Aad hm.1) hm.1 (h := h) (d := d);rw [hcan] at hsa;rw [hsm] at hsa;have hel := hm.1.2.1;have hnl : ((m.evs.map A5).map Bw).length = m.evs.length := by simp
       generalize hEs : (m.evs.map A5).map Bw = Es at *;refine Aa (FunOk.lend (n := 22) (h' := fun _ => none) (d' := 0) (sz := 21) (es := Es) rfl (by simp [A2, tn]) rfl rfl (hsa _ _)) ?_;simp (disch := omega) only [hnl, go_sem];refine A7 An (fun p : Nat × List (List PV) => Wu l0 at' M j m (.os 22) m.evs.length [(22, some (.row 21 p.2))] p.1) (fun p => p.1 ≤ m.evs.length ∧ p.2.length = m.evs.length) (fun p => m.evs.length - p.1) (0, Es) ⟨Nat.zero_le _, hnl⟩ (Ar ?_ ?_) fun p hp => ?_
       · (try simp only [E0, Ez, Ey, Ew, Ev, Eu, Et, Er]); simp (disch := omega) only [go_sem]
       · (try simp only [E0, Ez, Ey, Ew, Ev, Eu, Et, Er]); simp (disch := omega) only [hpB, Da, C5, List.cons_append, List.nil_append, go_sem]
       obtain ⟨q, E⟩ := p;obtain ⟨p1, p2⟩ := hp;simp only at p1 p2;by_cases hq : q < m.evs.length
       · (try simp only [E0, Ez, Ey, Ew, Ev, Eu, Et, Er]); simp (disch := omega) only [Wu, hpB, C5, List.cons_append, List.nil_append, p2, go_sem]
         refine Az (x := (q, E)) (q + 1, E.set q (splice (E.getD q []) 15 [PV.s [63]])) _ _ rfl ⟨by show q + 1 ≤ _; omega, by show (E.set _ _).length = _; rw [List.length_set]; exact p2⟩ (by show m.evs.length - (q + 1) < m.evs.length - q; omega) ?_ ?_
         · (try simp only [E0, Ez, Ey, Ew, Ev, Eu, Et, Er]); simp (disch := omega) only [go_sem]
         · (try simp only [E0, Ez, Ey, Ew, Ev, Eu, Et, Er]); simp (disch := omega) only [go_sem]
       · obtain rfl : q = m.evs.length := by omega
         (try simp only [E0, Ez, Ey, Ew, Ev, Eu, Et, Er]); simp (disch := omega) only [Wu, hpB, C5, List.cons_append, List.nil_append, p2, go_sem]
         refine Aa (Ab6 (.inr rfl) hdr hm.1 hm.2 hbl rfl) ?_;rw [htk];simp (disch := omega) only [go_sem];refine Az (x := j) (j + 1) _ _ rfl (by omega) (by omega) ?_ ?_
         · simp (disch := omega) only [go_sem]
         · simp (disch := omega) only [hpB, go_sem]
   · obtain rfl : j = M.length := by omega
     have hdn : M.drop M.length = [] := List.drop_length;simp (disch := omega) only [Wv, hpB, List.length_map, hdn, List.map_nil, go_sem];refine Aa (Qg at') ?_;simp (disch := omega) only [go_sem];refine Aa (Tw at') ?_;simp (disch := omega) only [go_sem];refine Aa Xu ?_;simp (disch := omega) only [go_sem];refine Rn An fn18 (by simp) fun l0 XI hc => ?_;rw [Ks _ _ _ (by show 2 ≤ 1000000; omega)];simp (disch := omega) only [ir18, List.getElem?_cons_zero, Aci, go_sem];refine Aa ((Aab (L := []) rfl).same rfl (by simp [A2, tn])) ?_;simp (disch := omega) only [List.length_nil, go_sem];refine Aa (Acb 1 2) ?_;simp (disch := omega) only [go_sem];refine Aa (Xj (Lp 1 2)) ?_;simp (disch := omega) only [go_sem];refine Aa (T0 at') ?_;simp (disch := omega) only [go_sem];refine Aa (Tz at') ?_;simp (disch := omega) only [go_sem];refine Aa Xm ?_;simp (disch := omega) only [go_sem]
theorem Yc {c0 c1 : List PV} (g0 : GC (.sl Aha) c0) (g1 : GC (.int .i64) c1) {h d} :
 FunOk Try.prog 3 [G6 (.sl Aha) c0, G6 (.int .i64) c1] h d (.pv (.b true)) [] := by
 obtain ⟨es, rfl, h1, g0⟩ := Adf g0;obtain ⟨l, rfl, hA⟩ := Sq (f := Jp) Aut g0;obtain ⟨k, rfl, _⟩ := Aur g1;exact Aeq hA
end Go.Proofs.Ytagpocgklmeoiaa.Fw
