/- What the function of the law HistoryMeets computes, and what it leans on. -/
import Derived.Test.YthmjebkldgdeiaaWalk2
import Derived.OpenShut
import Derived.ShutString
import Derived.ChangeOld
import Derived.SizedLaws
import Derived.ChangeOld
import Derived.Lib.Bytealg
import Derived.Lib.Overlaps
import Derived.OpenShut
import Derived.ShutString
import Derived.SizedLaws
set_option linter.unusedVariables false
set_option linter.unusedSimpArgs false
set_option linter.unusedSectionVars false
set_option maxRecDepth 100000
namespace Go.Proofs.Ythmjebkldgdeiaa.Fw
open Go.RowKit Go.Proofs
variable {P : Program} {F : Fr} {N : Nat} {ρ ρ' : Nat → Value} {s : FS} {a : Act} {w w' : World} {V V' : View}
theorem fun_io2 (hm : P.follows .mixedOrders = true) {f N' : Nat} {rs : List Rv} {c : C} (hf : fnOf P f = some (N', rs, c)) {args : List SV} {h : Nat → Option Blk} {d g m : Nat} {X X' Y Y' x : SV} (hlen : args.length ≤ N')
 (hg : h g = some (.var X)) (hmm : h m = some (.var Y)) (hgm : g ≠ m) (hgt : g ∈ tops args) (hmt : m ∈ tops args) (hx : x.closed = true) (hX : X'.closed = true) (hY : Y'.closed = true)
 (hrun : ∀ F, sx (env P F N') c (RetW rs fun y s => y = x ∧ s.t 1000000 = .p g 0 ∧ s.t 1000001 = .p m 0 ∧ s.h g = some (.var X') ∧ s.h m = some (.var Y')) (mk (argT 0 args ++ [(1000000, .p g 0), (1000001, .p m 0)]) [(g, some (.var X)), (m, some (.var Y))])) :
 FunOk P f args h d x [.upd g (.var X'), .upd m (.var Y')] := by
 refine ⟨entered_of hf, fun F N ρ s a w hR hh vs hc => ?_⟩
 have hsg : s.h g = some (.var X) := (hh g hgt).trans hg
 have hsm : s.h m = some (.var Y) := (hh m hmt).trans hmm
 have hvl := concL_len hc
 let H : List (Nat × Option Blk) := [(g, some (.var X)), (m, some (.var Y))]
 let F' : Fr := ⟨w, mine ρ s.h [g, m], F.out ρ (without s [g, m]).h, fun n => if n = 1000001 then ρ m else ρ g, []⟩
 have hmine : ∀ b, mine ρ s.h [g, m] b ↔ idOf (ρ g) = some b ∨ idOf (ρ m) = some b := fun b => by
  constructor
  · rintro ⟨n, hn, x, h1, h2⟩
    simp only [List.mem_cons, List.not_mem_nil, or_false] at hn
    rcases hn with rfl | rfl
    · exact .inl h2
    · exact .inr h2
  · rintro (hb | hb)
    · exact ⟨g, by simp, _, hsg, hb⟩
    · exact ⟨m, by simp, _, hsm, hb⟩
 have hlk : ∀ n z, lk none n H = some z ↔ (n = g ∧ z = .var X) ∨ (n = m ∧ z = .var Y) := fun n z => by
  simp only [H, lk]
  by_cases e1 : n = g
  · subst e1; rw [if_pos rfl]
    constructor
    · intro e; cases e; exact .inl ⟨rfl, rfl⟩
    · rintro (⟨_, e⟩ | ⟨e, _⟩)
      · rw [e]
      · exact absurd e hgm
  · rw [if_neg e1]
    by_cases e2 : n = m
    · subst e2; rw [if_pos rfl]
      constructor
      · intro e; cases e; exact .inr ⟨rfl, rfl⟩
      · rintro (⟨e, _⟩ | ⟨_, e⟩)
        · exact absurd e e1
        · rw [e]
    · rw [if_neg e2]
      constructor
      · intro e; cases e
      · rintro (⟨e, _⟩ | ⟨e, _⟩)
        · exact absurd e e1
        · exact absurd e e2
 have hin : ∀ n z, lk none n H = some z → s.h n = some z := fun n z hz => by
  rcases (hlk n z).1 hz with ⟨rfl, rfl⟩ | ⟨rfl, rfl⟩
  · exact hsg
  · exact hsm
 have how : ∀ b, owned ρ (mk (argT 0 args ++ [(1000000, .p g 0), (1000001, .p m 0)]) H).h b ↔ mine ρ s.h [g, m] b := fun b => by
  rw [hmine]
  constructor
  · rintro ⟨n, z, h1, h2⟩
    rcases (hlk n z).1 h1 with ⟨rfl, _⟩ | ⟨rfl, _⟩
    · exact .inl h2
    · exact .inr h2
  · rintro (hb | hb)
    · exact ⟨g, _, (hlk g _).2 (.inl ⟨rfl, rfl⟩), hb⟩
    · exact ⟨m, _, (hlk m _).2 (.inr ⟨rfl, rfl⟩), hb⟩
 have hoth : ∀ b, owned ρ (without s [g, m]).h b ↔ ∃ n, n ≠ g ∧ n ≠ m ∧ ∃ x, s.h n = some x ∧ idOf (ρ n) = some b := fun b => by
  constructor
  · rintro ⟨n, x, h1, h2⟩
    simp only [without] at h1; split at h1
    · cases h1
    · rename_i hn
      simp only [List.mem_cons, List.not_mem_nil, or_false, not_or] at hn
      exact ⟨n, hn.1, hn.2, x, h1, h2⟩
  · rintro ⟨n, hn, hn2, x, h1, h2⟩
    exact ⟨n, x, by simp only [without]; rw [if_neg (by simp [hn, hn2])]; exact h1, h2⟩
 have hview : viewOf w (F'.out ρ (mk (argT 0 args ++ [(1000000, .p g 0), (1000001, .p m 0)]) H).h) = vw F w ρ s := by
  show viewOf w _ = viewOf w _
  congr 1
  funext b
  refine propext ⟨fun hb => ?_, fun hb => ?_⟩
  · rcases hb with hb | hb
    · obtain ⟨n, _, x, h1, h2⟩ := (how b).1 hb; exact .inl ⟨n, x, h1, h2⟩
    · rcases hb with hb | hb
      · obtain ⟨n, _, _, x, h1, h2⟩ := (hoth b).1 hb; exact .inl ⟨n, x, h1, h2⟩
      · exact .inr hb
  · rcases hb with ⟨n, x, h1, h2⟩ | hb
    · by_cases hn : n = g
      · subst hn; exact .inl ((how b).2 ((hmine b).2 (.inl h2)))
      · by_cases hn2 : n = m
        · subst hn2; exact .inl ((how b).2 ((hmine b).2 (.inr h2)))
        · exact .inr (.inl ((hoth b).2 ⟨n, hn, hn2, x, h1, h2⟩))
    · exact .inr (.inr hb)
 have hN := fnOf_le hf
 have hR0 : RelR F' N' ρ (mk (argT 0 args ++ [(1000000, .p g 0), (1000001, .p m 0)]) H) { tmps := (⟨vs⟩ : Array Value) ++ Array.replicate (N' - (⟨vs⟩ : Array Value).size) undef, defers := [] } w := by
  refine ⟨⟨rfl, rfl, rfl, Nat.le_refl _, fun _ _ _ => rfl, fun b hb => ⟨?_, fun hmi => ?_⟩⟩, fun b hb => .inr ((how b).1 hb), fun n x hx => ?_, fun n k x y b hx hy hbx hby => ?_, fun n => ?_, by simp; omega, rfl⟩
  · rcases hb with hb | hb
    · obtain ⟨n, _, _, x, h1, h2⟩ := (hoth b).1 hb; exact (hR.own n x h1).lt h2
    · exact Nat.lt_of_lt_of_le (hR.fr.hid b hb).1 hR.fr.size
  · have hmb := (hmine b).1 hmi
    rcases hb with hb | hb
    · obtain ⟨k, hk, hk2, y, g1, g2⟩ := (hoth b).1 hb
      rcases hmb with hmb | hmb
      · exact hk (hR.inj k g y _ b g1 hsg g2 hmb)
      · exact hk2 (hR.inj k m y _ b g1 hsm g2 hmb)
    · rcases hmb with hmb | hmb
      · exact hR.shown ⟨g, _, hsg, hmb⟩ hb
      · exact hR.shown ⟨m, _, hsm, hmb⟩ hb
  · rw [hview]; exact hR.own _ _ (hin n x hx)
  · exact hR.inj n k x y b (hin n x hx) (hin k y hy) hbx hby
  · rw [hview]
    simp only [mk]
    unfold Fr.val
    by_cases hb : n < big
    · rw [if_pos hb]
      have he : ((⟨vs⟩ : Array Value) ++ Array.replicate (N' - (⟨vs⟩ : Array Value).size) undef).getD n undef = (vs[n]?).getD undef := by
       rw [Array.getD_eq_getD_getElem?]
       by_cases hn : n < vs.length
       · rw [Array.getElem?_append_left (by simpa using hn)]; simp
       · rw [Array.getElem?_append_right (by simpa using hn)]
         rw [List.getElem?_eq_none (by omega)]
         simp only [Array.getElem?_replicate, Option.getD_none]
         split <;> rfl
      rw [he]
      have := argT_conc 0 n hc
      simp only [Nat.zero_le, if_true, Nat.sub_zero] at this
      by_cases hn : n < args.length
      · rw [argT_some _ n 0 args (Nat.zero_le n) (by omega)]; exact this
      · rw [argT_none _ n 0 args fun i h1 h2 => by omega]
        have : n ≠ 1000000 := fun e => by rw [e] at hb; exact Nat.lt_irrefl _ hb
        have that : n ≠ 1000001 := fun e => by rw [e] at hb; exact absurd (Nat.lt_of_succ_lt hb) (Nat.lt_irrefl _)
        simp only [lk, if_neg this, if_neg that, Conc]
    · rw [if_neg hb, argT_none _ n 0 args fun i h1 h2 => by omega]
      simp only [lk]
      by_cases e0 : n = 1000000
      · subst e0
        rw [if_pos rfl, show F'.x 1000000 = ρ g from (by show (if (1000000 : Nat) = 1000001 then ρ m else ρ g) = ρ g; exact if_neg (by omega))]
        obtain ⟨b, vs', ty, fr, u, k1, k2⟩ := hR.own g _ hsg
        simp only [Conc]
        exact ⟨b, k1, k1⟩
      · rw [if_neg e0]
        by_cases e1 : n = 1000001
        · subst e1
          rw [if_pos rfl, show F'.x 1000001 = ρ m from (by show (if (1000001 : Nat) = 1000001 then ρ m else ρ g) = ρ m; exact if_pos rfl)]
          obtain ⟨b, vs', ty, fr, u, k1, k2⟩ := hR.own m _ hsm
          simp only [Conc]
          exact ⟨b, k1, k1⟩
        · rw [if_neg e1]
          simp only [Conc]
 refine Calls.mono (call_fromG hm hf rfl hR0.fr (fun b hb => by
  obtain ⟨n, hn, x, h1, h2⟩ := hb
  exact (hR.own n x h1).lt h2) hR0 retW_w (hrun F')) fun e w' he => ?_
 obtain ⟨v, ρ', s', a', y, rfl, hR', hy, hyx, ht, ht2, hg', hm'⟩ := he
 subst hyx
 have hadr : ρ g = ρ' g := by
  have h1 := hR'.tmps 1000000
  rw [ht] at h1
  have e : F'.val a' 1000000 = ρ g := by
   unfold Fr.val
   rw [if_neg (show ¬ (1000000 : Nat) < big from Nat.lt_irrefl _)]
   show (if (1000000 : Nat) = 1000001 then ρ m else ρ g) = ρ g
   exact if_neg (by omega)
  rw [e] at h1
  simp only [Conc] at h1
  obtain ⟨b, e1, e2⟩ := h1
  rw [e1, e2]
 have hadm : ρ m = ρ' m := by
  have h1 := hR'.tmps 1000001
  rw [ht2] at h1
  have e : F'.val a' 1000001 = ρ m := by
   unfold Fr.val
   rw [if_neg (show ¬ (1000001 : Nat) < big from fun q => absurd (Nat.lt_of_succ_lt q) (Nat.lt_irrefl _))]
   show (if (1000001 : Nat) = 1000001 then ρ m else ρ g) = ρ m
   exact if_pos rfl
  rw [e] at h1
  simp only [Conc] at h1
  obtain ⟨b, e1, e2⟩ := h1
  rw [e1, e2]
 let S : FS := s.hup [.upd g (.var X'), .upd m (.var Y')]
 have Sg : S.h g = some (.var X') := by simp [S, FS.hup, FS.seth, hgm]
 have Sm : S.h m = some (.var Y') := by simp [S, FS.hup, FS.seth]
 have So : ∀ n, n ≠ g → n ≠ m → S.h n = s.h n := fun n h1 h2 => by simp [S, FS.hup, FS.seth, h1, h2]
 have key : ∀ (q : Nat) (y : Blk), S.h q = some y → ∃ y', s.h q = some y' := fun q y hq => by
  by_cases e1 : q = g
  · subst e1; exact ⟨_, hsg⟩
  · by_cases e2 : q = m
    · subst e2; exact ⟨_, hsm⟩
    · rw [So q e1 e2] at hq; exact ⟨y, hq⟩
 have hown : ∀ b, owned ρ S.h b → owned ρ s.h b := fun b ⟨n, z, h1, h2⟩ => by
  obtain ⟨y, hy⟩ := key n z h1
  exact ⟨n, y, hy, h2⟩
 have hkeep : ∀ b, b < w.heap.size → ¬ mine ρ s.h [g, m] b → w'.heap[b]? = w.heap[b]? := fun b hb hn => hR'.fr.block b hb hn
 have hV1 : (vw F w ρ s).le (viewOf w' (F.out ρ S.h)) := viewOf_le fun b c ho hc => by
  have hlt : b < w.heap.size := cellsAt_of hc
  refine ⟨fun hb => ?_, ?_⟩
  · rcases hb with hb | hb
    · exact ho (.inl (hown b hb))
    · exact ho (.inr hb)
  · rw [cellsAt_congr (hkeep b hlt fun ⟨k, _, y, h4, h5⟩ => ho (.inl ⟨k, y, h4, h5⟩))]; exact hc
 have hout2 : ∀ b, F.out ρ S.h b → F'.out ρ' s'.h b := fun b hb => by
  rcases hb with ⟨n, z, h1, h2⟩ | hb
  · by_cases e1 : n = g
    · subst e1; rw [hadr] at h2; exact .inl ⟨n, _, hg', h2⟩
    · by_cases e2 : n = m
      · subst e2; rw [hadm] at h2; exact .inl ⟨n, _, hm', h2⟩
      · rw [So n e1 e2] at h1
        exact .inr (.inl ((hoth b).2 ⟨n, e1, e2, z, h1, h2⟩))
  · exact .inr (.inr hb)
 have hV2 : (viewOf w' (F'.out ρ' s'.h)).le (viewOf w' (F.out ρ S.h)) := viewOf_le fun b c ho hc => ⟨fun hb => ho (hout2 b hb), hc⟩
 refine ⟨v, ρ, rfl, ⟨⟨hR'.fr.os.trans hR.fr.os, hR'.fr.tape.trans hR.fr.tape, hR'.fr.output.trans hR.fr.output, Nat.le_trans hR.fr.size hR'.fr.size, fun b hlt hM => ?_, hR.fr.hid⟩, fun b hb => ?_, fun n z hz => ?_, fun n k z z' b hn hk hbn hbk => ?_, fun n => ?_, hR.size, hR.defers⟩, closed_conc hV2 hx hy⟩
 · rw [hkeep b (Nat.lt_of_lt_of_le hlt hR.fr.size) fun ⟨k, _, y, h4, h5⟩ => ?_]
   · exact hR.fr.block b hlt hM
   · rcases hR.may b ⟨k, y, h4, h5⟩ with h1 | h1
     · omega
     · exact hM h1
 · exact hR.may b (hown b hb)
 · show Own w' (viewOf w' (F.out ρ S.h)) ρ n z
   have hz' : S.h n = some z := hz
   by_cases e1 : n = g
   · subst e1
     rw [Sg] at hz'; cases hz'
     exact Own.closed (blk := .var X') hX hV2 hadr (hR'.own n _ hg')
   · by_cases e2 : n = m
     · subst e2
       rw [Sm] at hz'; cases hz'
       exact Own.closed (blk := .var Y') hY hV2 hadm (hR'.own n _ hm')
     · rw [So n e1 e2] at hz'
       have ho := hR.own n z hz'
       refine ho.congr hV1 fun b hb => hkeep b (ho.lt hb) fun hmi => ?_
       rcases (hmine b).1 hmi with h1 | h1
       · exact e1 (hR.inj n g _ _ b hz' hsg hb h1)
       · exact e2 (hR.inj n m _ _ b hz' hsm hb h1)
 · obtain ⟨y1, h1⟩ := key n z hn
   obtain ⟨y2, h2⟩ := key k z' hk
   exact hR.inj n k y1 y2 b h1 h2 hbn hbk
 · show Conc _ ρ (s.t n) _
   exact (hR.tmps n).mono hV1
end Go.Proofs.Ythmjebkldgdeiaa.Fw
namespace Go.Proofs.Ythmjebkldgdeiaa.Fw
open Go.RowKit Go.Proofs
theorem FunOk.io2 {P : Program} {f : Nat} {a : List SV} {c c' e e' x : SV} (hf : ∀ h d, h 900 = some (.var c) → h 901 = some (.var e) → FunOk P f (.p 900 0 :: .p 901 0 :: a) h d x [.upd 900 (.var c'), .upd 901 (.var e')]) (ha : SV.closedL a = true) (hx : x.closed = true) (hc : c.closed = true) (hc' : c'.closed = true) (he : e.closed = true) (he' : e'.closed = true)
 {m n : Nat} (hmn : m ≠ n) (hm9 : m < 900) (hn9 : n < 900) {h : Nat → Option Blk} {d : Nat} (hd : d < 900) (hdm : d ≠ m) (hdn : d ≠ n) (hg : h m = some (.var c)) (hk : h n = some (.var e)) : FunOk P f (.p m 0 :: .p n 0 :: a) h d x [.upd m (.var c'), .upd n (.var e')] := by
 have hπ := sw2_inv (a := 900) (m := m) (b := 901) (n := n) (by omega) (by omega) (by omega) hmn
 have e1 : sw2 900 m 901 n 900 = m := by unfold sw2; simp
 have e2 : sw2 900 m 901 n 901 = n := by unfold sw2; repeat' split <;> (try omega)
 have h1 := (hf (fun k => h (sw2 900 m 901 n k)) d (by show h (sw2 900 m 901 n 900) = _; rw [e1]; exact hg) (by show h (sw2 900 m 901 n 901) = _; rw [e2]; exact hk)).rn (π := sw2 900 m 901 n) hπ (d' := d)
 simp only [SV.rnL, SV.rn, HU.rn, Blk.rn, List.map_cons, List.map_nil, e1, e2, rnL_cl ha, rn_cl hx, rn_cl hc', rn_cl he'] at h1
 refine h1.at fun k hk' => ?_
 simp only [tops, tn, tops_cl ha, List.append_nil, List.mem_append, List.mem_singleton] at hk'
 simp only [hπ]
 rcases hk' with rfl | rfl
 · rw [hg]; simp only [Option.map_some, Blk.rn, rn_cl hc]
 · rw [hk]; simp only [Option.map_some, Blk.rn, rn_cl he]
def mrgT (Y X : List Evt) : List Evt := Y ++ X.filter fun e => !hasB (knownG Y) e.rep e.seq
theorem mrgT_snoc (Y X : List Evt) (e : Evt) : mrgT Y (X ++ [e]) = if hasB (knownG Y) e.rep e.seq = true then mrgT Y X else mrgT Y X ++ [e] := by
 unfold mrgT
 rw [List.filter_append, List.filter_cons]
 by_cases h : hasB (knownG Y) e.rep e.seq = true
 · rw [if_pos h, if_neg (by rw [h]; simp)]; simp
 · rw [if_neg h, if_pos (by simpa using h)]; simp
def Uniq (X Y : List Evt) : Prop := ∀ e ∈ X, ∀ f ∈ Y, evId e = evId f → e = f
theorem mem_mrgT {X Y : List Evt} (hY : Val Y) (hU : Uniq X Y) {e : Evt} : e ∈ mrgT Y X ↔ e ∈ Y ∨ e ∈ X := by
 unfold mrgT
 rw [List.mem_append, List.mem_filter]
 constructor
 · rintro (h | h)
   · exact .inl h
   · exact .inr h.1
 · rintro (h | h)
   · exact .inl h
   · by_cases hk : hasB (knownG Y) e.rep e.seq = true
     · obtain ⟨f, hf, hi⟩ := (hY.has (i := evId e)).1 hk
       have := hU e h f hf hi.symm
       subst this; exact .inl hf
     · exact .inr ⟨h, by simpa using hk⟩
theorem acc_tell {X Y A B : List Evt} {e : Evt} (hX : Val X) (hY : Val Y) (hU : Uniq X Y) (hs : X = A ++ e :: B) (hW : Val (mrgT Y A)) (hk : ¬ hasB (knownG Y) e.rep e.seq = true) : Acc (buildS (mrgT Y A)) e := by
 subst hs
 have hv : Val ((A ++ [e]) ++ B) := by rw [List.append_assoc]; exact hX
 obtain ⟨hA, he, hw⟩ := hv.pre.inv
 have ha := acc_iff.1 hw
 have hUA : Uniq A Y := fun x hx => hU x (by simp [hx])
 refine acc_sub hA hW (fun x hx => (mem_mrgT hY hUA).2 (.inr hx)) ha (fun f hf q => ?_) fun f hf hk9 hr => ?_
 · rcases (mem_mrgT hY hUA).1 hf with h | h
   · exact hk ((hY.has (i := evId e)).2 ⟨f, h, q⟩)
   · exact acc_new hA ha f h q
 · rcases (mem_mrgT hY hUA).1 hf with h | h
   rotate_left
   · exact h
   have h1 : hasB (knownG Y) (evId f).1 (evId f).2 = true := hY.has.2 ⟨f, h, rfl⟩
   obtain ⟨n1, n2, n3⟩ := acc_next ha
   rw [bld_known] at n3
   have h2 : ¬ hasB (knownG Y) (evId e).1 (evId e).2 = true := hk
   rw [hasB_iff] at h1 h2
   simp only at h1 h2
   rw [hr] at h1
   have h3 : hasB (knownG A) (evId f).1 (evId f).2 = true := by
    rw [hasB_iff]; simp only; rw [hr]; omega
   obtain ⟨g, hg, hi⟩ := hA.has.1 h3
   have := hU g (by simp [hg]) f h hi
   subst this; exact hg
theorem val_tell {X Y : List Evt} (hX : Val X) (hY : Val Y) (hU : Uniq X Y) : ∀ A B, X = A ++ B → Val (mrgT Y A) := by
 refine snocR (P := fun A => ∀ B, X = A ++ B → Val (mrgT Y A)) (fun B _ => by simpa [mrgT] using hY) fun A e ih B hB => ?_
 have hW := ih (e :: B) (by rw [hB]; simp)
 rw [mrgT_snoc]
 split
 · exact hW
 · rename_i hk
   have ha := acc_tell hX hY hU (B := B) (by rw [hB]; simp) hW hk
   obtain ⟨_, _, _, _, he, _⟩ := hX.mem (e := e) (by rw [hB]; simp)
   exact Val.snoc hW he (acc_iff.2 ha)
noncomputable def stTl (l0 : Nat) (X Y : List Evt) (fy : Vc) (j : Nat) : FS := mk [(8, .pv (.i .i64 j)), (7, .pv (.i .i64 X.length)), (6, .pv (.sl true 21 (X.map evE))), (0, .fn (.yield l0) []), (2, .pi 8 [vE (knownG Y)] 0 0), (1000000, .pv (.i .i64 0)), (1000004, .p 3 0), (1000008, .p 7 0), (2000001, .p 900 0), (2000002, .p 901 0)] [(3, some (.var (.p 901 0))), (7, some (.var (.pv (.b false)))), (900, some (.var (hiV (buildS X) (fun _ => 0) X))), (901, some (.var (hiV (buildS (mrgT Y (X.take j))) fy (mrgT Y (X.take j)))))]
theorem addC_eq {T : List Evt} {e : Evt} (h : Val T) (hc : canE e = e) (hw : whyS (buildS T) e = 0) : addHS (buildS T) e = buildS (T ++ [e]) ∧ addHL (buildS T) T e = T ++ [e] := by
 unfold addHS addHL
 rw [if_pos hw, if_pos hw, build_snoc h (acc_iff.1 hw), hc]
 exact ⟨rfl, rfl⟩
set_option maxHeartbeats 8000000 in
theorem okTell {X Y : List Evt} {fy : Vc} (hX : Val X) (hY : Val Y) (hU : Uniq X Y) (hcan : ∀ e ∈ X, canE e = e) (hxn : X.length ≤ 100) (hyn : Y.length ≤ 100) {m n : Nat} (hmn : m ≠ n) (hm9 : m < 900) (hn9 : n < 900) {h : Nat → Option Blk} {d : Nat} (hd : d < 900) (hdm : d ≠ m) (hdn : d ≠ n)
 (hg : h m = some (.var (hiV (buildS X) (fun _ => 0) X))) (hk : h n = some (.var (hiV (buildS Y) fy Y))) :
 FunOk Try.prog 17 [.p m 0, .p n 0] h d (.pv (.b true)) [.upd m (.var (hiV (buildS X) (fun _ => 0) X)), .upd n (.var (hiV (buildS (mrgT Y X)) fy (mrgT Y X)))] := by
 refine FunOk.io2 (fun h d hg hk => ?_) rfl rfl rfl rfl rfl rfl hmn hm9 hn9 hd hdm hdn hg hk
 refine fun_io2 mixed fn17 (by simp) hg hk (by decide) (by simp [tops, tn]) (by simp [tops, tn]) rfl rfl rfl fun F => ?_
 simp (disch := omega) only [ir17, go_sem]
 refine call_with (okKnownH (S := buildS Y) (L := Y) rfl) ?_
 rw [bld_known]
 simp (disch := omega) only [go_sem]
 refine call_with (okSinceH (S := buildS X) (L := X) (knownG Y) (fun i _ => Nat.zero_le _) rfl) ?_
 simp (disch := omega) only [allF, go_sem]
 refine rng_ok mixed fn33 (by simp) fun l0 XI hc => ?_
 rw [enter_mk _ _ _ (by show 3 ≤ 1000000; omega)]
 simp (disch := omega) only [ir33, List.getElem?_cons_zero, ld_slE, List.length_map, go_sem]
 refine loop_ok mixed (stTl l0 X Y fy) (fun k => k ≤ X.length) (fun k => X.length - k) 0 (by simp) (weak_mk ?_ ?_) fun j hj => ?_
 · simp (disch := omega) only [go_sem]
 · have e0 : mrgT Y [] = Y := by simp [mrgT]
   simp (disch := omega) only [List.take_zero, e0, go_sem]
 by_cases hlt : j < X.length
 · have hx : X[j]? = some X[j] := List.getElem?_eq_getElem hlt
   have he : (X.map evE)[j]? = some (evE X[j]) := by rw [List.getElem?_map, hx]; rfl
   have ht := take_snoc hx
   have hdr : X = X.take j ++ X[j] :: X.drop (j + 1) := by rw [← List.drop_eq_getElem_cons hlt, List.take_append_drop]
   have hsn := mrgT_snoc Y (X.take j) X[j]
   rw [← ht] at hsn
   have hW := val_tell hX hY hU (X.take j) (X.drop j) (List.take_append_drop _ _).symm
   have hacc := acc_tell hX hY hU hdr hW
   have hmem := List.getElem_mem hlt
   have hce := hcan _ hmem
   obtain ⟨_, _, _, _, hev, _⟩ := hX.mem hmem
   have hWl : (mrgT Y (X.take j)).length ≤ 200 := by
    unfold mrgT
    rw [List.length_append]
    have h1 := List.length_filter_le (fun e => !hasB (knownG Y) e.rep e.seq) (X.take j)
    have h2 := List.length_take_le j X
    omega
   generalize hWW : mrgT Y (X.take j) = W at *
   generalize X[j] = e at *
   have hel := evE_len e
   by_cases hh' : hasB (knownG Y) e.rep e.seq = true
   · rw [if_pos hh'] at hsn
     simp (disch := omega) only [stTl, hWW, List.length_map, he, ld_ev, hel, List.getElem?_cons_zero, load_vE8, ld_evId, go_sem]
     refine call_with (okHasV _ _ _) ?_
     rw [hh']
     simp (disch := omega) only [go_sem]
     refine loop_next (j + 1) _ _ rfl (by omega) (by omega) ?_ ?_
     · simp (disch := omega) only [go_sem]
     · simp (disch := omega) only [hsn, go_sem]
   · rw [if_neg hh'] at hsn
     have hh : hasB (knownG Y) e.rep e.seq = false := by simpa using hh'
     have hw := acc_iff.2 (hacc hh')
     obtain ⟨a1, a2⟩ := addC_eq hW hce hw
     simp (disch := omega) only [stTl, hWW, List.length_map, he, ld_ev, hel, List.getElem?_cons_zero, load_vE8, ld_evId, go_sem]
     refine call_with (okHasV _ _ _) ?_
     rw [hh]
     simp (disch := omega) only [ld_ev, hel, go_sem]
     refine call_with (okCloneEv e hev) ?_
     rw [hce]
     simp (disch := omega) only [go_sem]
     refine yld_ok mixed hc ?_ rfl fun XA XB => ?_
     · simp (disch := omega) only [go_sem]
     rw [round_mk _ _ _ _ (ps_1 24 (by decide))]
     simp (disch := omega) only [ld_ev, hel, go_sem]
     refine call_with (okAddH (S := buildS W) (L := W) (val_in hW (by omega)) hev (by omega) rfl) ?_
     rw [a1, a2, hw]
     simp (disch := omega) only [go_sem]
     refine loop_next (j + 1) _ _ rfl (by omega) (by omega) ?_ ?_
     · simp (disch := omega) only [go_sem]
     · simp (disch := omega) only [hsn, go_sem]
 · obtain rfl : j = X.length := by omega
   have htk : X.take X.length = X := List.take_length
   simp (disch := omega) only [stTl, List.length_map, htk, go_sem]
   refine ⟨_, .same _, ?_⟩
   (try simp only [bK1, bK2, bK3, bK4, bK5, bK6, bK7, bK8]); simp (disch := omega) only [go_sem]
theorem GC_evsC {cs : List PV} (h : GC (.sl shEvt) cs) : ∃ l : List Evt, cs = [.sl false 21 (l.map evE)] ∧ ∀ e ∈ l, EvRaw e ∧ canE e = e := by
 obtain ⟨es, rfl, _, g⟩ := GC_sl h
 have key : ∀ {cs}, GC shEvt cs → ∃ e : Evt, cs = evE e ∧ (EvRaw e ∧ canE e = e) := fun {cs} hc => by
  obtain ⟨e, h1, h2, h3, h4⟩ := GC_evtC hc
  refine ⟨e, h1, ⟨h2, by rw [h3]; exact .inr rfl, by rw [h4]; exact .inr rfl⟩, ?_⟩
  unfold canE
  rw [← h3, ← h4]
 obtain ⟨l, rfl, hl⟩ := els_of (f := evE) (p := fun e => EvRaw e ∧ canE e = e) key g
 exact ⟨l, rfl, hl⟩
def selL (a : Vc) (l : List Evt) : List Evt := l.filter fun e => hasB a e.rep e.seq
theorem selL_snoc (a : Vc) (l : List Evt) (e : Evt) : selL a (l ++ [e]) = if hasB a e.rep e.seq = true then selL a l ++ [e] else selL a l := by
 unfold selL
 rw [List.filter_append, List.filter_cons]
 by_cases h : hasB a e.rep e.seq = true
 · rw [if_pos h, if_pos h]; simp
 · rw [if_neg h, if_neg h]; simp
theorem selL_mem {a : Vc} {l : List Evt} {e : Evt} (h : e ∈ selL a l) : e ∈ l := (List.mem_filter.1 h).1
theorem selL_len (a : Vc) (l : List Evt) : (selL a l).length ≤ l.length := List.length_filter_le _ _
def stHm1 (l : List Evt) (a b : Vc) (k : Nat) : FS := mk [(25, .pv (.i .i64 k)), (24, .pv (.i .i64 l.length)), (23, .pv (.sl false 21 (l.map evE))), (0, .pv (.sl false 21 (l.map evE))), (4, .p 4 0), (5, .p 5 0)] [(4, some (.var (.vec 8 (vE a)))), (5, some (.var (.vec 8 (vE b))))]
def stHm2 (l : List Evt) (a b : Vc) (k : Nat) (e : Evt) (s : List (List PV)) (f : Bool) (j : Nat) : FS := mk [(34, .pv (.i .i64 j)), (33, .pv (.i .i64 k)), (32, .pv (.sl f 21 s)), (8, .p 8 0), (25, .pv (.i .i64 k)), (24, .pv (.i .i64 l.length)), (23, .pv (.sl false 21 (l.map evE))), (0, .pv (.sl false 21 (l.map evE))), (4, .p 4 0), (5, .p 5 0)] [(8, some (.var (.vec 21 (evE e)))), (4, some (.var (.vec 8 (vE a)))), (5, some (.var (.vec 8 (vE b))))]
noncomputable def hiT (T : List Evt) : SV := hiV (buildS T) (fun _ => 0) T
noncomputable def stHm3 (l : List Evt) (a b : Vc) (k : Nat) : FS := mk [(51, .pv (.i .i64 k)), (50, .pv (.i .i64 l.length)), (49, .pv (.sl false 21 (l.map evE))), (11, .p 46 0), (12, .p 48 0), (4, .p 4 0), (5, .p 5 0)] [(4, some (.var (.vec 8 (vE a)))), (5, some (.var (.vec 8 (vE b)))), (46, some (.var (hiT (takeL (selL a (l.take k)))))), (48, some (.var (hiT (takeL (selL b (l.take k))))))]
theorem addT_eq {T : List Evt} {e : Evt} (h : Val T) (hc : canE e = e) : hiV (addHS (buildS T) e) (fun _ => 0) (addHL (buildS T) T e) = hiT (takS T e) := by
 unfold hiT takS addHS addHL
 by_cases hw : whyS (buildS T) e = 0
 · rw [if_pos hw, if_pos hw, if_pos hw, build_snoc h (acc_iff.1 hw), hc]
 · rw [if_neg hw, if_neg hw, if_neg hw]
theorem k_hiT (n : Nat) (T : List Evt) : SV.kill n (hiT T) = hiT T := rfl
theorem w_hiT (T : List Evt) : SV.width (hiT T) = 35 := rfl
theorem f_hiT (n : Nat) (p : PV) (T : List Evt) : SV.frz n p (hiT T) = hiT T := rfl
attribute [go_sem] k_hiT w_hiT f_hiT
set_option maxHeartbeats 16000000 in
theorem lawMeets {l : List Evt} (a b : Vc) (hl : ∀ e ∈ l, EvRaw e ∧ canE e = e) {h d} :
 FunOk Try.prog 4 [.pv (.sl false 21 (l.map evE)), .vec 8 (vE a), .vec 8 (vE b)] h d (.pv (.b true)) [] := by
 refine fun_pure mixed fn4 (by simp) rfl rfl fun F => ?_
 simp (disch := omega) only [ir4, go_sem]
 refine call_with okLives16 ?_
 simp (disch := omega) only [go_sem]
 refine call_with (okFits16 (l := l) rfl rfl) ?_
 by_cases hf' : FitsH l
 rotate_left
 · have hf := fitsH_f hf'
   simp (disch := omega) only [hf, go_sem]
   refine call_with okLives16 ?_
   simp (disch := omega) only [go_sem]
 have hf := fitsH_t hf'
 have hin : ∀ e ∈ l, EvIn e := fun x hx => raw_in (hl x hx).1 (hf'.2 x hx)
 have hl25 := hf'.1
 simp (disch := omega) only [hf, List.length_map, go_sem]
 refine loop_ok mixed (stHm1 l a b) (fun k => k ≤ l.length ∧ NodE (l.take k)) (fun k => l.length - k) 0 ⟨by simp, List.nodup_nil⟩ (weak_mk ?_ ?_) fun k hk => ?_
 · simp (disch := omega) only [go_sem]
 · simp (disch := omega) only [go_sem]
 obtain ⟨hk1, hk2⟩ := hk
 by_cases hlt : k < l.length
 · have hx : l[k]? = some l[k] := List.getElem?_eq_getElem hlt
   have he : (l.map evE)[k]? = some (evE l[k]) := by rw [List.getElem?_map, hx]; rfl
   have ht := take_snoc hx
   generalize l[k] = e at *
   have hel := evE_len e
   have htl : (l.map evE).take k = (l.take k).map evE := by rw [List.map_take]
   have hkl : (l.take k).length = k := by rw [List.length_take]; omega
   simp (disch := omega) only [stHm1, List.length_map, he, ld_ev, hel, htl, hkl, go_sem]
   refine loop_ok mixed (stHm2 l a b k e ((l.take k).map evE) false) (fun j => j ≤ k ∧ ∀ i x, i < j → (l.take k)[i]? = some x → evId x ≠ evId e) (fun j => k - j) 0 ⟨by omega, fun i x hi => absurd hi (Nat.not_lt_zero i)⟩ (weak_mk ?_ ?_) fun j hj => ?_
   · simp (disch := omega) only [go_sem]
   · simp (disch := omega) only [go_sem]
   obtain ⟨hj1, hj2⟩ := hj
   by_cases hjl : j < k
   · have hjl' : j < (l.take k).length := by omega
     have hxj : (l.take k)[j]? = some (l.take k)[j] := List.getElem?_eq_getElem hjl'
     have hej : ((l.take k).map evE)[j]? = some (evE (l.take k)[j]) := by rw [List.getElem?_map, hxj]; rfl
     generalize (l.take k)[j] = y at *
     have hely := evE_len y
     by_cases hne : evId y = evId e
     · have hp := peqI_t hne
       simp (disch := omega) only [stHm2, List.length_map, hkl, hej, ld_ev, hely, ld_evId, fits_id, fitsId2, hp, go_sem]
     · have hp := peqI_f hne
       simp (disch := omega) only [stHm2, List.length_map, hkl, hej, ld_ev, hely, ld_evId, fits_id, fitsId2, hp, go_sem]
       refine loop_next (j + 1) _ _ rfl ⟨by omega, fun i x hi hix => ?_⟩ (by omega) ?_ ?_
       · by_cases eij : i = j
         · subst eij; rw [hxj] at hix; cases hix; exact hne
         · exact hj2 i x (by omega) hix
       · simp (disch := omega) only [go_sem]
       · simp (disch := omega) only [go_sem]
   · obtain rfl : j = k := by omega
     simp (disch := omega) only [stHm2, go_sem]
     refine loop_next (j + 1) _ _ rfl ⟨by omega, ?_⟩ (by omega) ?_ ?_
     · rw [ht]
       unfold NodE at hk2 ⊢
       rw [List.map_append, List.nodup_append]
       refine ⟨hk2, by simp, fun x hx y hy q => ?_⟩
       obtain ⟨g, hg, rfl⟩ := List.mem_map.1 hx
       simp at hy
       obtain ⟨i, hi⟩ := List.mem_iff_getElem?.1 hg
       have hil := (List.getElem?_eq_some_iff.1 hi).1
       exact hj2 i g (by omega) hi (by rw [q, hy])
     · simp (disch := omega) only [go_sem]
     · simp (disch := omega) only [go_sem]
 obtain rfl : k = l.length := by omega
 have htk : l.take l.length = l := List.take_length
 rw [htk] at hk2
 simp (disch := omega) only [stHm1, List.length_map, go_sem]
 refine call_with (FunOk.imp (okStartH (S := buildS []) fine0') ⟨seg0_imp, trivial⟩ (by simp [tops, tn, tops_seg])) ?_
 simp (disch := omega) only [kn_nil, go_sem]
 refine call_with (FunOk.imp (okStartH (S := buildS []) fine0') ⟨seg0_imp, trivial⟩ (by simp [tops, tn, tops_seg])) ?_
 simp (disch := omega) only [kn_nil, List.length_map, go_sem]
 refine loop_ok mixed (stHm3 l a b) (fun k => k ≤ l.length) (fun k => l.length - k) 0 (by simp) (weak_mk ?_ ?_) fun k hk => ?_
 · simp (disch := omega) only [go_sem]
 · simp (disch := omega) only [takeL, selL, List.take_zero, List.filter_nil, List.foldl_nil, hiT, go_sem]
 by_cases hlt : k < l.length
 · have hx : l[k]? = some l[k] := List.getElem?_eq_getElem hlt
   have he : (l.map evE)[k]? = some (evE l[k]) := by rw [List.getElem?_map, hx]; rfl
   have ht := take_snoc hx
   have hmem := List.getElem_mem hlt
   have hek := hin _ hmem
   have hcan := (hl _ hmem).2
   have sa := selL_snoc a (l.take k) l[k]
   have sb := selL_snoc b (l.take k) l[k]
   rw [← ht] at sa sb
   obtain ⟨ta, la, _⟩ := takeL_ok (selL a (l.take k)) fun e he => (hin e (List.mem_of_mem_take (selL_mem he))).ev
   obtain ⟨tb, lb, _⟩ := takeL_ok (selL b (l.take k)) fun e he => (hin e (List.mem_of_mem_take (selL_mem he))).ev
   have la2 := selL_len a (l.take k)
   have lb2 := selL_len b (l.take k)
   have lk := List.length_take_le k l
   have ka := takeL_snoc (selL a (l.take k)) l[k]
   have kb := takeL_snoc (selL b (l.take k)) l[k]
   generalize hSA : selL a (l.take k) = SA at *
   generalize hSB : selL b (l.take k) = SB at *
   generalize hTA : takeL SA = TA at *
   generalize hTB : takeL SB = TB at *
   generalize l[k] = e at *
   have hel := evE_len e
   have ia := val_in ta (by omega)
   have ib := val_in tb (by omega)
   have qa := addT_eq ta hcan
   have qb := addT_eq tb hcan
   simp (disch := omega) only [stHm3, hSA, hSB, hTA, hTB, List.length_map, he, ld_ev, hel, ld_evId, go_sem]
   refine call_with (okHasR _ _ _) ?_
   by_cases hA : hasB a e.rep e.seq = true
   · rw [if_pos hA] at sa
     simp (disch := omega) only [hA, ld_ev, hel, go_sem]
     refine call_with (okAddH (S := buildS TA) (L := TA) ia hek.ev (by omega) rfl) ?_
     rw [qa]
     simp (disch := omega) only [ld_evId, go_sem]
     refine call_with (okHasR _ _ _) ?_
     by_cases hb : hasB b e.rep e.seq = true
     · rw [if_pos hb] at sb
       simp (disch := omega) only [hb, ld_ev, hel, go_sem]
       refine call_with (okAddH (S := buildS TB) (L := TB) ib hek.ev (by omega) rfl) ?_
       rw [qb]
       simp (disch := omega) only [go_sem]
       refine loop_next (k + 1) _ _ rfl (by omega) (by omega) ?_ ?_
       · simp (disch := omega) only [go_sem]
       · simp (disch := omega) only [sa, sb, ka, kb, hSA, hSB, hTA, hTB, go_sem]
     · rw [if_neg hb] at sb
       have hb' : hasB b e.rep e.seq = false := by simpa using hb
       simp (disch := omega) only [hb', go_sem]
       refine loop_next (k + 1) _ _ rfl (by omega) (by omega) ?_ ?_
       · simp (disch := omega) only [go_sem]
       · simp (disch := omega) only [sa, sb, ka, kb, hSA, hSB, hTA, hTB, go_sem]
   · rw [if_neg hA] at sa
     have hA' : hasB a e.rep e.seq = false := by simpa using hA
     simp (disch := omega) only [hA', ld_evId, go_sem]
     refine call_with (okHasR _ _ _) ?_
     by_cases hb : hasB b e.rep e.seq = true
     · rw [if_pos hb] at sb
       simp (disch := omega) only [hb, ld_ev, hel, go_sem]
       refine call_with (okAddH (S := buildS TB) (L := TB) ib hek.ev (by omega) rfl) ?_
       rw [qb]
       simp (disch := omega) only [go_sem]
       refine loop_next (k + 1) _ _ rfl (by omega) (by omega) ?_ ?_
       · simp (disch := omega) only [go_sem]
       · simp (disch := omega) only [sa, sb, ka, kb, hSA, hSB, hTA, hTB, go_sem]
     · rw [if_neg hb] at sb
       have hb' : hasB b e.rep e.seq = false := by simpa using hb
       simp (disch := omega) only [hb', go_sem]
       refine loop_next (k + 1) _ _ rfl (by omega) (by omega) ?_ ?_
       · simp (disch := omega) only [go_sem]
       · simp (disch := omega) only [sa, sb, ka, kb, hSA, hSB, hTA, hTB, go_sem]
 obtain rfl : k = l.length := by omega
 obtain ⟨ta, la, ma⟩ := takeL_ok (selL a l) fun e he => (hin e (selL_mem he)).ev
 obtain ⟨tb, lb, mb⟩ := takeL_ok (selL b l) fun e he => (hin e (selL_mem he)).ev
 have la2 := selL_len a l
 have lb2 := selL_len b l
 have ma' : ∀ e ∈ takeL (selL a l), e ∈ l := fun e he => selL_mem (ma e he)
 have mb' : ∀ e ∈ takeL (selL b l), e ∈ l := fun e he => selL_mem (mb e he)
 simp (disch := omega) only [stHm3, List.length_map, htk, go_sem]
 generalize takeL (selL a l) = X at *
 generalize takeL (selL b l) = Y at *
 have hU : Uniq X Y := fun e he f hf q => nodE_eq hk2 (ma' e he) (mb' f hf) q
 have vY := val_tell ta tb hU X [] (by simp)
 have hm1 : ∀ e, e ∈ mrgT Y X ↔ e ∈ Y ∨ e ∈ X := fun e => mem_mrgT tb hU
 have hU2 : Uniq (mrgT Y X) X := fun e he f hf q => nodE_eq hk2 (((hm1 e).1 he).elim (mb' e) (ma' e)) (ma' f hf) q
 have vX := val_tell vY ta hU2 (mrgT Y X) [] (by simp)
 have hm2 : ∀ e, e ∈ mrgT X (mrgT Y X) ↔ e ∈ X ∨ e ∈ mrgT Y X := fun e => mem_mrgT ta hU2
 have hln : ∀ {A B : List Evt}, (mrgT A B).length ≤ A.length + B.length := fun {A B} => by
  unfold mrgT
  rw [List.length_append]
  have h1 := List.length_filter_le (fun e => !hasB (knownG A) e.rep e.seq) B
  omega
 have l1 := hln (A := Y) (B := X)
 have l2 := hln (A := X) (B := mrgT Y X)
 have hper : (mrgT X (mrgT Y X)).Perm (mrgT Y X) := perm_of vX vY fun e => by
  rw [hm2, hm1]
  exact ⟨fun q => q.elim .inr id, fun q => .inr q⟩
 have hbe := build_perm vX vY hper
 refine call_with (okTell (X := X) (Y := Y) ta tb hU (fun e he => (hl e (ma' e he)).2) (by omega) (by omega) (by decide) (by decide) (by decide) (by decide) (by decide) (by decide) rfl rfl) ?_
 simp (disch := omega) only [go_sem]
 refine call_with (okTell (X := mrgT Y X) (Y := X) vY ta hU2 (fun e he => (hl e (((hm1 e).1 he).elim (mb' e) (ma' e))).2) (by omega) (by omega) (by decide) (by decide) (by decide) (by decide) (by decide) (by decide) rfl rfl) ?_
 rw [hbe]
 have hpq := peq_refl (vE (buildS (mrgT Y X)).known)
 have hfi := fitsV8 (buildS (mrgT Y X)).known
 have hfin := (val_in vY (by omega)).fine
 simp (disch := omega) only [go_sem]
 refine call_with (okKnownH (S := buildS (mrgT Y X)) (L := mrgT X (mrgT Y X)) rfl) ?_
 simp (disch := omega) only [go_sem]
 refine call_with (okKnownH (S := buildS (mrgT Y X)) (L := mrgT Y X) rfl) ?_
 simp (disch := omega) only [hpq, hfi, go_sem]
 refine call_with (okStateH (S := buildS (mrgT Y X)) (L := mrgT X (mrgT Y X)) hfin rfl) ?_
 simp (disch := omega) only [go_sem]
 refine call_with (okStateH (S := buildS (mrgT Y X)) (L := mrgT Y X) hfin rfl) ?_
 simp (disch := omega) only [go_sem]
 refine call_with (okSame12 (s := buildS (mrgT Y X)) hfin) ?_
 simp (disch := omega) only [go_sem]
theorem holdsHistoryMeets {c0 c1 c2 : List PV} (g0 : GC (.sl shEvt) c0) (g1 : GC (.arr 8 (.int .u32)) c1) (g2 : GC (.arr 8 (.int .u32)) c2) {h d} :
 FunOk Try.prog 4 [toSV (.sl shEvt) c0, toSV (.arr 8 (.int .u32)) c1, toSV (.arr 8 (.int .u32)) c2] h d (.pv (.b true)) [] := by
 obtain ⟨l, rfl, hl⟩ := GC_evsC g0
 obtain ⟨a, rfl, _⟩ := GC_vE g1
 obtain ⟨b, rfl, _⟩ := GC_vE g2
 exact lawMeets a b hl
end Go.Proofs.Ythmjebkldgdeiaa.Fw
