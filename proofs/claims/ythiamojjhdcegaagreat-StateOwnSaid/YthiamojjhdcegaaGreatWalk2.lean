/- What the functions compute that the laws of this seat Zk. -/
import Derived.Test.YthiamojjhdcegaaGreatWalk1
import Derived.OpenShut
import Derived.ShutString
import Derived.ChangeOld
import Derived.SizedLaws
import Derived.ChangeOld
import Derived.Lib.Bytealg
import Derived.Lib.Overlaps
import Derived.OpenShut
import Derived.ShutString
import Derived.SizedLaws
set_option linter.unusedVariables false
set_option linter.unusedSimpArgs false
set_option linter.unusedSectionVars false
set_option maxRecDepth 100000
namespace Go.Proofs.YthiamojjhdcegaaGreat.Fw
variable [Th]
open Go.RowKit Go.Proofs
variable {P : Program} {F : Fr} {N : Nat} {ρ ρ' : Nat → Value} {s : FS} {a : Act} {w w' : World} {V V' : View}
theorem Me {sz : Nat} {es es' : List (List PV)} (h : PImpR es es') : PImp (.fs sz es) (.sl false sz es') := by
 intro V v hv;cases hv with
 | fs sz es a cap cs bl off arr hcap hsz ha hcs hel =>
   have hl := h.len;have hne : es' ≠ [] → es ≠ [] := fun e1 e2 => by subst e2; exact e1 (List.eq_nil_of_length_eq_zero hl.symm)
   rw [hl];refine .sl false sz es' a cap cs bl off arr (by omega) (by simp) (fun c hc => ?_) (fun e => ⟨(ha (hne e)).1, (ha (hne e)).2.1⟩) (fun i j hi hj => hcs i j (by omega) hj) fun i j c x hi hx => ?_
   · obtain ⟨j, hj⟩ := List.mem_iff_getElem?.1 hc;obtain ⟨u, h1, h2⟩ := h.get hj;rw [← h2.len, hsz u (List.mem_of_getElem? h1)]
   · obtain ⟨u, h1, h2⟩ := h.get hi;obtain ⟨y, h3, h4⟩ := h2.get hx;exact h4 V _ (hel i j u y h1 h3)
theorem Art {sz : Nat} {es es' : List (List PV)} (h : PImpR es es') : PImp (.fs sz es) (.fs sz es') := by
 intro V v hv;cases hv with
 | fs sz es a cap cs bl off arr hcap hsz ha hcs hel =>
   have hl := h.len;have hne : es' ≠ [] → es ≠ [] := fun e1 e2 => by subst e2; exact e1 (List.eq_nil_of_length_eq_zero hl.symm)
   rw [hl];refine .fs sz es' a cap cs bl off arr (by omega) (fun c hc => ?_) (fun e => ha (hne e)) (fun i j hi hj => hcs i j (by omega) hj) fun i j c x hi hx => ?_
   · obtain ⟨j, hj⟩ := List.mem_iff_getElem?.1 hc;obtain ⟨u, h1, h2⟩ := h.get hj;rw [← h2.len, hsz u (List.mem_of_getElem? h1)]
   · obtain ⟨u, h1, h2⟩ := h.get hi;obtain ⟨y, h3, h4⟩ := h2.get hx;exact h4 V _ (hel i j u y h1 h3)
theorem Jf {f : Bool} {z sz : Nat} : PImp (.sl f z []) (.fs sz []) := by
 intro V v hv;cases hv with
 | sl full sz' es a cap cs bl off arr hcap hfull hsz ha hcs hel =>
   exact .fs sz [] a cap (fun _ _ => undef) 0 0 #[] hcap (by simp) (fun h => absurd rfl h) (by simp) (by simp)
theorem Alk {N' : Nat} {a' : Act} {s' : FS} (hR' : RelR ⟨w, fun _ => False, F.out ρ s.h, fun _ => undef, []⟩ N' ρ' s' a' w') {n sz : Nat} {es : List (List PV)} (hn : s'.h n = some (.row sz es)) : PConc (vw F w' ρ s) (.fs sz es) (ρ' n) :=
 (Ws hR' (fun _ h => h) hn).mono (Ba fun b c ho hc => ⟨fun hb => ho (.inr hb), hc⟩)
theorem Z9 (hm : P.follows .mixedOrders = true) {f N' : Nat} {rs : List Rv} {c : C} (hf : Be P f = some (N', rs, c)) {args : List SV} {h : Nat → Option Blk} {d : Nat} {sz : Nat} {es : List (List PV)} (hlen : args.length ≤ N')
 (hargs : SV.closedL args = true) (hrun : ∀ F, sx (Sb P F N') c (My rs fun y g => (∃ n, y = .os n ∧ g n = some (.row sz es)) ∨ ∃ z, y = .pv (.sl true z []) ∧ es = [] ∧ 0 < sz) (mk (C2 0 args) [])) :
 FunOk P f args h d (.pv (.fs sz es)) [] := by
 obtain ⟨h1, h2, h3⟩ := Bk hargs;refine ⟨B9 hf, fun F N ρ s a w hR hh vs hc => ?_⟩;refine Calls.mono (Cs hm hf (h := h) hlen h2 Hv (by rw [h3]; exact hrun) hR hh hc) fun e w' he => ?_;obtain ⟨v, rfl, hg, N'', ρ', s', a', y, hR', hy, hyy⟩ := he;rw [h1, Cu] at hR' hy;refine ⟨v, ρ, rfl, hR.grew hg, ?_⟩;rcases hyy with ⟨n, rfl, hn⟩ | ⟨z, rfl, rfl, hsz⟩
 · simp only [Conc] at hy ⊢;rw [hy.1];exact Alk hR' hn
 · simp only [Conc] at hy ⊢;exact Jf _ _ (hy.mono (Ct hR'))
theorem Aif (hm : P.follows .mixedOrders = true) {f N' : Nat} {rs : List Rv} {c : C} (hf : Be P f = some (N', rs, c)) {args : List SV} {h : Nat → Option Blk} {d : Nat} {sz : Nat} {es : List (List PV)} {z0 : SV} (hlen : args.length ≤ N')
 (hargs : SV.closedL args = true) (hz : z0.closed = true) (hrun : ∀ F, sx (Sb P F N') c (My rs fun y g => (∃ n, y = .tup [.os n, z0] ∧ g n = some (.row sz es)) ∨ ∃ z, y = .tup [.pv (.sl true z []), z0] ∧ es = []) (mk (C2 0 args) [])) :
 FunOk P f args h d (.tup [.pv (.fs sz es), z0]) [] := by
 obtain ⟨h1, h2, h3⟩ := Bk hargs;refine ⟨B9 hf, fun F N ρ s a w hR hh vs hc => ?_⟩;refine Calls.mono (Cs hm hf (h := h) hlen h2 Hv (by rw [h3]; exact hrun) hR hh hc) fun e w' he => ?_;obtain ⟨v, rfl, hg, N'', ρ', s', a', y, hR', hy, hyy⟩ := he;rw [h1, Cu] at hR' hy;refine ⟨v, ρ, rfl, hR.grew hg, ?_⟩;rcases hyy with ⟨n, rfl, hn⟩ | ⟨z, rfl, rfl⟩
 · simp only [Conc, ConcL] at hy ⊢;obtain ⟨vs, rfl, u, us, rfl, hu, u2, us2, rfl, hu2, rfl⟩ := hy;refine ⟨_, rfl, u, _, rfl, ?_, u2, _, rfl, Bl (Ct hR') hz hu2, rfl⟩;rw [hu.1]; exact Alk hR' hn
 · simp only [Conc, ConcL] at hy ⊢;obtain ⟨vs, rfl, u, us, rfl, hu, u2, us2, rfl, hu2, rfl⟩ := hy;exact ⟨_, rfl, u, _, rfl, Jf _ _ (hu.mono (Ct hR')), u2, _, rfl, Bl (Ct hR') hz hu2, rfl⟩
theorem Aoj (hm : P.follows .mixedOrders = true) {f N' : Nat} {rs : List Rv} {c : C} (hf : Be P f = some (N', rs, c)) {args : List SV} {h : Nat → Option Blk} {d : Nat} {x : SV} (hlen : args.length ≤ N')
 (hargs : SV.closedL args = true) (hx : x.closed = true) (hrun : ∀ F, sx (Sb P F N') c (Ada rs fun y g => Imp y x ∨ ∃ n sz es, g.h n = some (.row sz es) ∧ Imp (y.frz n (.fs sz es)) x) (mk (C2 0 args) [])) : FunOk P f args h d x [] := by
 obtain ⟨h1, h2, h3⟩ := Bk hargs;refine ⟨B9 hf, fun F N ρ s a w hR hh vs hc => ?_⟩;refine Calls.mono (Cs hm hf (h := h) hlen h2 Sw (by rw [h3]; exact hrun) hR hh hc) fun e w' he => ?_;obtain ⟨v, rfl, hg, N'', ρ', s', a', y, hR', hy, hyx⟩ := he;rw [h1, Cu] at hR' hy;refine ⟨v, ρ, rfl, hR.grew hg, ?_⟩;rcases hyx with hyx | ⟨n, sz, es, hn, hyx⟩
 · exact Bl (Ct hR') hx (hyx _ _ _ hy)
 · obtain ⟨hR2, hV, hV2⟩ := hR'.frzF (fun _ h => h) hn;have hp := (Ws hR' (fun _ h => h) hn).mono hV2;exact Bl (Ct hR2) hx (hyx _ _ _ (Conc.frz hV hp hy))
theorem Aig (hm : P.follows .mixedOrders = true) {f N' : Nat} {rs : List Rv} {c : C} (hf : Be P f = some (N', rs, c)) {args : List SV} {h : Nat → Option Blk} {d : Nat} {x : SV} (hlen : args.length ≤ N')
 (hargs : SV.closedL args = true) (hx : x.closed = true) (hrun : ∀ F, sx (Sb P F N') c (My rs fun y g => Imp y x ∨ ∃ n sz es, g n = some (.row sz es) ∧ Imp (y.frz n (.fs sz es)) x) (mk (C2 0 args) [])) : FunOk P f args h d x [] := by
 obtain ⟨h1, h2, h3⟩ := Bk hargs;refine ⟨B9 hf, fun F N ρ s a w hR hh vs hc => ?_⟩;refine Calls.mono (Cs hm hf (h := h) hlen h2 Hv (by rw [h3]; exact hrun) hR hh hc) fun e w' he => ?_;obtain ⟨v, rfl, hg, N'', ρ', s', a', y, hR', hy, hyx⟩ := he;rw [h1, Cu] at hR' hy;refine ⟨v, ρ, rfl, hR.grew hg, ?_⟩;rcases hyx with hyx | ⟨n, sz, es, hn, hyx⟩
 · exact Bl (Ct hR') hx (hyx _ _ _ hy)
 · obtain ⟨hR2, hV, hV2⟩ := hR'.frzF (fun _ h => h) hn;have hp := (Ws hR' (fun _ h => h) hn).mono hV2;exact Bl (Ct hR2) hx (hyx _ _ _ (Conc.frz hV hp hy))
theorem FunOk.asF {f : Nat} {args : List SV} {h : Nat → Option Blk} {d sz : Nat} {es : List (List PV)} (hargs : SV.closedL args = true) (hf : ∀ h d, FunOk P f args h d (.os d) [.new d (.row sz es)]) : FunOk P f args h d (.pv (.fs sz es)) [] := by
 refine ⟨(hf h d).1, fun F N ρ s a w hR hh vs hc => ?_⟩
 let F1 : Fr := ⟨w, fun _ => False, F.out ρ s.h, fun _ => undef, []⟩
 let s1 : FS := ⟨fun _ => .dead, fun _ => none⟩
 have hR1 : RelR F1 0 (fun _ => undef) s1 ⟨#[], []⟩ w := by
  refine ⟨⟨rfl, rfl, rfl, Nat.le_refl _, fun _ _ _ => rfl, fun b hb => ⟨?_, id⟩, ⟨hR.tabW, fun _ _ => id⟩⟩, fun b ⟨n, x, h, _⟩ => by simp [s1] at h, fun n x h => by simp [s1] at h, fun n m x y b h => by simp [s1] at h, fun n => by simp only [s1, Conc], rfl, rfl⟩;rcases hb with hb | hb
  · exact hR.lt hb
  · exact Nat.lt_of_lt_of_le (hR.fr.hid b hb).1 hR.fr.size
 have hV : (vw F w ρ s).le (vw F1 w (fun _ => undef) s1) := Ba fun b c ho hc => ⟨fun hb => by
  rcases hb with ⟨n, x, h, _⟩ | hb
  · simp [s1] at h
  · exact ho hb, hc⟩
 have hns : A5 args = [] := by
  cases hx : A5 args with
  | nil => rfl
  | cons n l =>
    have : SV.killL n args = args := Gb n hargs;exact absurd (by rw [hx]; simp) (Jd this)
 refine Calls.mono ((hf (fun _ => none) 0).2 F1 0 _ s1 _ w hR1 (by rw [hns]; simp) vs (Hi hV hargs hc)) fun e w' ⟨v, ρ', h1, h2, h3⟩ => ?_;have hg : Grew w w' := ⟨h2.fr.os, h2.fr.tape, h2.fr.output, h2.fr.size, fun b hb => h2.fr.block b hb id⟩
 refine ⟨v, ρ, h1, hR.grew hg, ?_⟩;have hn : (s1.hup [.new 0 (.row sz es)]).h 0 = some (.row sz es) := by simp [FS.hup, FS.seth]
 have hp := Ws h2 (fun _ h => h) hn;simp only [Conc] at h3 ⊢;rw [h3.1];exact hp.mono (Ba fun b c ho hc => ⟨fun hb => ho (.inr hb), hc⟩)
end Go.Proofs.YthiamojjhdcegaaGreat.Fw
namespace Go.Proofs.YthiamojjhdcegaaGreat.Fw
variable [Th]
open Go.RowKit Go.Proofs
def Av (o : Obj) : List PV := [.i .i64 o.id.1, .i .u32 o.id.2, .b o.dir, .i .i64 o.last.1, .i .u32 o.last.2, .s o.name] ++ vE o.seen ++ [.fs 11 (o.vers.map A6)]
theorem F8 (o : Obj) : (Av o).length = 15 := by simp [Av, Bh]
theorem Zx (o : Obj) (K : KK) : LoadK (some (Av o)) 0 2 true K = K (.vec 2 ([.i .i64 o.id.1, .i .u32 o.id.2])) [] := by
 simp only [LoadK, Hm, eq_iff_iff];have e : ((Av o).drop 0).take 2 = [.i .i64 o.id.1, .i .u32 o.id.2] := by
  obtain ⟨i, b, l, n, s, v⟩ := o;simp only [Av, vE, Cj]; rfl
 rw [e];exact ⟨fun h => h.2.2, fun h => ⟨by simp [F8], .inl trivial, h⟩⟩
theorem Afh (o : Obj) (K : KK) : LoadK (some (Av o)) 3 2 true K = K (.vec 2 ([.i .i64 o.last.1, .i .u32 o.last.2])) [] := by
 simp only [LoadK, Hm, eq_iff_iff];have e : ((Av o).drop 3).take 2 = [.i .i64 o.last.1, .i .u32 o.last.2] := by
  obtain ⟨i, b, l, n, s, v⟩ := o;simp only [Av, vE, Cj]; rfl
 rw [e];exact ⟨fun h => h.2.2, fun h => ⟨by simp [F8], .inl trivial, h⟩⟩
theorem Afg (o : Obj) (K : KK) : LoadK (some (Av o)) 6 8 true K = K (.vec 8 (vE o.seen)) [] := by
 simp only [LoadK, Hm, eq_iff_iff];have e : ((Av o).drop 6).take 8 = vE o.seen := by
  obtain ⟨i, b, l, n, s, v⟩ := o;simp only [Av, vE, Cj]; rfl
 rw [e];exact ⟨fun h => h.2.2, fun h => ⟨by simp [F8], .inl trivial, h⟩⟩
theorem Hy (o : Obj) (K : KK) : LoadK (some (Av o)) 2 1 false K = K (.pv (.b o.dir)) [] := by
 simp only [LoadK, Hm, eq_iff_iff];have e : (Av o).getD 2 (.b false) = .b o.dir := by
  obtain ⟨i, b, l, n, s, v⟩ := o;simp only [Av, vE, Cj]; rfl
 rw [e];exact ⟨fun h => h.2.2, fun h => ⟨by simp [F8], .inr trivial, h⟩⟩
theorem G5 (o : Obj) (K : KK) : LoadK (some (Av o)) 14 1 false K = K (.pv (.fs 11 (o.vers.map A6))) [] := by
 simp only [LoadK, Hm, eq_iff_iff];have e : (Av o).getD 14 (.b false) = .fs 11 (o.vers.map A6) := by
  obtain ⟨i, b, l, n, s, v⟩ := o;simp only [Av, vE, Cj]; rfl
 rw [e];exact ⟨fun h => h.2.2, fun h => ⟨by simp [F8], .inr trivial, h⟩⟩
theorem Vb (o : Obj) (K : KK) : LoadK (some (Av o)) 0 15 true K = K (.vec 15 (Av o)) [] := by
 simp only [LoadK, Hm, eq_iff_iff];have e : ((Av o).drop 0).take 15 = Av o := List.take_of_length_le (by simp [F8]);rw [e];exact ⟨fun h => h.2.2, fun h => ⟨by simp [F8], .inl trivial, h⟩⟩
theorem Amf (o : Obj) (i : Bo) : splice (Av o) 3 ([.i .i64 i.1, .i .u32 i.2]) = Av { o with last := i } := by
 obtain ⟨i, b, l, n, s, v⟩ := o;simp only [splice, Av, vE, Cj]; rfl
theorem Ame (o : Obj) (s : List UInt8) : splice (Av o) 5 ([.s s]) = Av { o with name := s } := by
 obtain ⟨i, b, l, n, s, v⟩ := o;simp only [splice, Av, vE, Cj]; rfl
theorem Amd (o : Obj) (v : Vc) : splice (Av o) 6 (vE v) = Av { o with seen := v } := by
 obtain ⟨i, b, l, n, s, v⟩ := o;simp only [splice, Av, vE, Cj]; rfl
theorem Amc (o : Obj) (l : List Ver) : splice (Av o) 14 ([.fs 11 (l.map A6)]) = Av { o with vers := l } := by
 obtain ⟨i, b, l, n, s, v⟩ := o;simp only [splice, Av, vE, Cj]; rfl
theorem Amg (o : Obj) : splice (A4 o) 14 [.fs 11 (o.vers.map A6)] = Av o := by
 obtain ⟨i, b, l, n, s, v⟩ := o;simp only [splice, A4, E0, Av, vE, Cj]; rfl
theorem Asf (o : Obj) (h : o.vers = []) : PImpL (E0 true 0 o) (Av o) := by
 refine PImpL.app (PImpL.refl _) ⟨?_, trivial⟩;rw [h]; exact Jf
def Cd (s : St) : SV := .pv (.fs 15 (s.ents.map Bj))
def Ff (s : St) : List SV := A2 s (.pv (.fs 15 (s.objs.map Av))) (Cd s)
def Arc (s : St) : List SV := A2 s (.pv (.sl false 15 (s.objs.map Av))) (Cd s)
theorem Arb {s : St} {es : List (List PV)} (he : PImpR es (s.objs.map Av)) : Imp (.agg (A2 s (.pv (.fs 15 es)) (Cd s))) (.agg (Ff s)) :=
 Rp ⟨⟨Imp.refl _, rfl⟩, ⟨Gw (Art he), rfl⟩, ⟨Imp.refl _, rfl⟩, ⟨Imp.refl _, rfl⟩, ⟨Imp.refl _, rfl⟩, trivial⟩
theorem Amo : Imp (.agg [.vec 8 (List.replicate 8 (.i .u32 0)), .pv (.sl true 0 []), .pv (.sl true 0 []), .vec 8 (List.replicate 8 (.i .i64 0)), .vec 8 (List.replicate 8 (.b false))]) (.agg (Ff st0)) :=
 Rp ⟨⟨Imp.refl _, rfl⟩, ⟨Gw Jf, rfl⟩, ⟨Gw Jf, rfl⟩, ⟨Imp.refl _, rfl⟩, ⟨Imp.refl _, rfl⟩, trivial⟩
theorem Akw {l : List Obj} {j : Nat} {y : Ent} (h : (l.map obN)[j]? = some y) : ∃ o, l[j]? = some o ∧ y.id = o.id := by
 rw [List.getElem?_map] at h;obtain ⟨o, h1, h2⟩ := Option.map_eq_some_iff.1 h;exact ⟨o, h1, by rw [← h2]; rfl⟩
theorem Vi {l : List Obj} {j : Nat} {o : Obj} (h : l[j]? = some o) : (l.map obN)[j]? = some (obN o) := by rw [List.getElem?_map, h]; rfl
theorem La {l : List Obj} (hs : El l) {j m : Nat} {x v : Obj} (hj : l[j]? = some x) (hm : l[m]? = some v) (h : j < m) : Ic x.id v.id = true := Wi (l := l.map obN) hs (Vi hj) (Vi hm) h
theorem Ax5 {l : List Obj} {i : Bo} {k : Nat} (hk : k ≤ l.length) (h1 : ∀ j x, j < k → l[j]? = some x → Ic x.id i = true) (h2 : ∀ x, l[k]? = some x → ¬ Ic x.id i = true) : B0 l i = k :=
 Ake (l := l.map obN) (by simpa using hk) (fun j x hj hx => by
  obtain ⟨o, h3, h4⟩ := Akw hx;rw [h4]; exact h1 j o hj h3) fun x hx => by
  obtain ⟨o, h3, h4⟩ := Akw hx;rw [h4]; exact h2 o h3
theorem Md (l : List Obj) (i : Bo) : B0 l i ≤ l.length := by have := Abt (l.map obN) i; simpa [B0] using this
theorem Rk {l : List Obj} (hs : El l) (i : Bo) : isO l i = match l[B0 l i]? with | some x => decide (x.id = i) | none => false := by
 have h := Rc (l := l.map obN) hs i;unfold isO Rl;rw [h];show _ = match l[B0 l i]? with | some x => decide (x.id = i) | none => false
 unfold B0;cases hx : l[F6 (l.map obN) i]? with
 | none => rw [List.getElem?_map, hx]; rfl
 | some x =>
   rw [List.getElem?_map, hx];show (if x.id = i then some (obN x) else none).isSome = decide (x.id = i);by_cases e : x.id = i <;> simp [e]
theorem A5o {l : List Obj} (hs : El l) {i : Bo} (h : isO l i = true) : ∃ o, l[B0 l i]? = some o ∧ o.id = i := by
 rw [Rk hs] at h;cases hx : l[B0 l i]? with
 | none => rw [hx] at h; cases h
 | some x => rw [hx] at h; exact ⟨x, rfl, by simpa using h⟩
def K7 (l : List Obj) (i : Bo) : Int := if i = (0, 0) then 0 else match l[B0 l i]? with
 | some o => if o.id = i then (if o.dir = true then 0 else 22) else 2
 | none => 2
theorem A6k {l : List Obj} (hs : El l) {i : Bo} (h : i ≠ (0, 0)) (k : isO l i = false) : K7 l i = 2 := by
 unfold K7; rw [if_neg h];rw [Rk hs] at k;cases hx : l[B0 l i]? with
 | none => rfl
 | some x => rw [hx] at k; simp only at k ⊢; rw [if_neg (by simpa using k)]
theorem A6j {l : List Obj} {i : Bo} {o : Obj} (h : i ≠ (0, 0)) (k : l[B0 l i]? = some o) (ho : o.id = i) : K7 l i = if o.dir = true then 0 else 22 := by
 unfold K7; rw [if_neg h, k]; simp only; rw [if_pos ho]
theorem Adg {i : Bo} (h : i = (0, 0)) : i.1 = 0 ∧ i.2 = 0 := by subst h; exact ⟨rfl, rfl⟩
theorem Aks (x : Obj) (b : Bo) {h d} : FunOk Tryz.prog 58 [.vec 15 (Av x), .vec 2 [.i .i64 b.1, .i .u32 b.2]] h d (.pv (.i .i64 (I3 x.id b))) [] := by
 refine Aw Af fn58 (by simp) rfl rfl fun F => ?_;simp (disch := omega) only [ir58, Zx, go_sem];refine Aa (Nn _ _ _ _) ?_;by_cases h1 : Ch x.id.1 x.id.2 b.1 b.2 = true
 · have e : I3 x.id b = -1 := if_pos h1;simp (disch := omega) only [h1, e, go_sem]
 · have h1' : Ch x.id.1 x.id.2 b.1 b.2 = false := by simpa using h1
   simp (disch := omega) only [h1', Zx, go_sem];refine Aa (Nn _ _ _ _) ?_;by_cases h2 : Ch b.1 b.2 x.id.1 x.id.2 = true
   · have e : I3 x.id b = 1 := by unfold I3; rw [if_neg h1, if_pos h2]
     simp (disch := omega) only [h2, e, go_sem]
   · have h2' : Ch b.1 b.2 x.id.1 x.id.2 = false := by simpa using h2
     have e : I3 x.id b = 0 := by unfold I3; rw [if_neg h1, if_neg h2]
     simp (disch := omega) only [h2', e, go_sem]
def U5 (f : Bool) (l : List Obj) (i : Bo) (p : Nat × Nat) : FS := mk [(9, .pv (.i .i64 p.1)), (10, .pv (.i .i64 p.2)), (8, .pv (.i .i64 l.length)), (0, .pv (.sl f 15 (l.map Av))), (2, .fn (.func 58) []), (4, .p 4 0)] [(4, some (.var (.vec 2 [.i .i64 i.1, .i .u32 i.2])))]
set_option maxHeartbeats 1000000 in
theorem Ayk {x : SV} {f : Bool} {l : List Obj} (i : Bo) {h d} (hx : Cl h [x, .vec 2 [.i .i64 i.1, .i .u32 i.2], .fn (.func 58) []] = [.pv (.sl f 15 (l.map Av)), .vec 2 [.i .i64 i.1, .i .u32 i.2], .fn (.func 58) []]) (hl : Bf [x, .vec 2 [.i .i64 i.1, .i .u32 i.2], .fn (.func 58) []] = true) (hs : El l) (hn : l.length ≤ 1000) :
 FunOk Tryz.prog 57 [x, .vec 2 [.i .i64 i.1, .i .u32 i.2], .fn (.func 58) []] h d (.tup [.pv (.i .i64 (B0 l i)), .pv (.b (isO l i))]) [] := by
 refine Cg Af fn57 (by simp) hl rfl fun F => ?_;rw [hx];simp (disch := omega) only [ir57, List.length_map, go_sem];refine A0 Af (U5 f l i) (fun p => p.1 ≤ p.2 ∧ p.2 ≤ l.length ∧ (∀ j x, j < p.1 → l[j]? = some x → Ic x.id i = true) ∧ ∀ j x, p.2 ≤ j → l[j]? = some x → ¬ Ic x.id i = true) (fun p => p.2 - p.1) (0, l.length) ⟨by simp, by simp, by simp, fun j x hj hx => by simp only at hj; rw [List.getElem?_eq_none hj] at hx; cases hx⟩ (Ak ?_ ?_) fun p hp => ?_
 · (try simp only [D4, D3, D2, D1, D0, Dx, Dw, Dv]); simp (disch := omega) only [go_sem]
 · simp (disch := omega) only [go_sem]
 obtain ⟨a, b⟩ := p;obtain ⟨p1, p2, p3, p4⟩ := hp;simp only at p1 p2 p3 p4;by_cases hlt : a < b
 · have hm : (a + b) / 2 < l.length := by omega
   have hx : l[(a + b) / 2]? = some l[(a + b) / 2] := List.getElem?_eq_getElem hm;have he : (l.map Av)[(a + b) / 2]? = some (Av l[(a + b) / 2]) := by rw [List.getElem?_map, hx]; rfl
   have e1 : ((a : Int) + (b : Int)).fdiv (2 ^ min (Int.toNat 1) 64) = (((a + b) / 2 : Nat) : Int) := by
    rw [show (2 : Int) ^ min (Int.toNat 1) 64 = 2 from rfl, Int.fdiv_eq_ediv_of_nonneg _ (by omega)]; omega
   have hm1 : a ≤ (a + b) / 2 := by omega
   have hm2 : (a + b) / 2 < b := by omega
   generalize l[(a + b) / 2] = v at *;generalize (a + b) / 2 = m at *;simp (disch := omega) only [U5, List.length_map, e1, he, Vb, go_sem];refine Aa (Aks v i) ?_;by_cases hc : Ic v.id i = true
   · have e2 : (I3 v.id i < 0) = True := by rw [Vp]; exact eq_true hc
     simp (disch := omega) only [e2, go_sem];refine Ad (x := (a, b)) (m + 1, b) _ _ rfl ⟨by show m + 1 ≤ b; omega, p2, fun j x hj hx' => ?_, p4⟩ (by show b - (m + 1) < b - a; omega) ?_ ?_
     · by_cases e : j = m
       · subst e; rw [hx] at hx'; cases hx'; exact hc
       · exact G6 (La hs hx' hx (by simp only at hj; omega)) hc
     · (try simp only [D4, D3, D2, D1, D0, Dx, Dw, Dv]); simp (disch := omega) only [go_sem]
     · simp (disch := omega) only [go_sem]
   · have e2 : (I3 v.id i < 0) = False := by rw [Vp]; exact eq_false hc
     simp (disch := omega) only [e2, go_sem];refine Ad (x := (a, b)) (a, m) _ _ rfl ⟨by show a ≤ m; omega, by show m ≤ _; omega, p3, fun j x hj hx' => ?_⟩ (by show m - a < b - a; omega) ?_ ?_
     · by_cases e : j = m
       · subst e; rw [hx] at hx'; cases hx'; exact hc
       · exact fun q => hc (G6 (La hs hx hx' (by simp only at hj; omega)) q)
     · (try simp only [D4, D3, D2, D1, D0, Dx, Dw, Dv]); simp (disch := omega) only [go_sem]
     · simp (disch := omega) only [go_sem]
 · obtain rfl : a = b := by omega
   have hpos : B0 l i = a := Ax5 p2 p3 fun x hx' => p4 a x (Nat.le_refl a) hx';have hk := Rk hs i;rw [hpos] at hk;by_cases hal : a < l.length
   · have hx' : l[a]? = some l[a] := List.getElem?_eq_getElem hal;have he : (l.map Av)[a]? = some (Av l[a]) := by rw [List.getElem?_map, hx']; rfl
     rw [hx'] at hk;simp only at hk;generalize l[a] = v at *;simp (disch := omega) only [U5, hal, he, Vb, List.length_map, go_sem];refine Aa (Aks v i) ?_;by_cases hv : v.id = i
     · have e2 : (I3 v.id i = 0) = True := by rw [Vq]; exact eq_true hv
       have e3 : isO l i = true := by rw [hk]; simp [hv]
       simp (disch := omega) only [e2, e3, hpos, go_sem]
     · have e2 : (I3 v.id i = 0) = False := by rw [Vq]; exact eq_false hv
       have e3 : isO l i = false := by rw [hk]; simp [hv]
       simp (disch := omega) only [e2, e3, hpos, go_sem]
   · rw [List.getElem?_eq_none (by omega)] at hk;simp (disch := omega) only [U5, hal, hpos, hk, go_sem]
theorem Ju {x : SV} {f : Bool} {l : List Obj} (i : Bo) {h d} (hx : Cl h [x, .vec 2 [.i .i64 i.1, .i .u32 i.2]] = [.pv (.sl f 15 (l.map Av)), .vec 2 [.i .i64 i.1, .i .u32 i.2]]) (hl : Bf [x, .vec 2 [.i .i64 i.1, .i .u32 i.2]] = true) (hs : El l) (hn : l.length ≤ 1000) :
 FunOk Tryz.prog 29 [x, .vec 2 [.i .i64 i.1, .i .u32 i.2]] h d (.tup [.pv (.i .i64 (B0 l i)), .pv (.b (isO l i))]) [] := by
 refine Cg Af fn29 (by simp) hl rfl fun F => ?_;rw [hx];simp (disch := omega) only [ir29, go_sem];refine Aa (Ayk (l := l) i rfl rfl hs hn) ?_;simp (disch := omega) only [go_sem]
theorem Amz {s : St} (i : Bo) {h d} (hs : El s.objs) (hn : s.objs.length ≤ 1000) : FunOk Tryz.prog 51 [.agg (Arc s), .vec 2 [.i .i64 i.1, .i .u32 i.2]] h d (.pv (.i .i64 (K7 s.objs i))) [] := by
 refine Aw Af fn51 (by simp) rfl rfl fun F => ?_;by_cases h0 : i = (0, 0)
 · have e : K7 s.objs i = 0 := if_pos h0;have hz : Cc i.1 i.2 = true := decide_eq_true (Adg h0);simp (disch := omega) only [ir51, Arc, A2, Cd, Ag, Aq, Ap, hz, e, go_sem]
 · have hz : Cc i.1 i.2 = false := decide_eq_false fun e => h0 (Prod.ext e.1 e.2);simp (disch := omega) only [ir51, Arc, A2, Cd, Ag, Aq, Ap, hz, go_sem];refine Aa (Ju (l := s.objs) i rfl rfl hs hn) ?_;by_cases hi : isO s.objs i = true
   · obtain ⟨o, h1, h2⟩ := A5o hs hi;have e := A6j h0 h1 h2;have hlt := (List.getElem?_eq_some_iff.1 h1).1;have he : (s.objs.map Av)[B0 s.objs i]? = some (Av o) := by rw [List.getElem?_map, h1]; rfl
     by_cases hd : o.dir = true
     · rw [if_pos hd] at e;simp (disch := omega) only [hi, List.length_map, he, Hy, hd, e, go_sem]
     · rw [if_neg hd] at e;have hd' : o.dir = false := by simpa using hd
       simp (disch := omega) only [hi, List.length_map, he, Hy, hd', e, go_sem]
   · have hi' : isO s.objs i = false := by simpa using hi
     have e := A6k hs h0 hi';simp (disch := omega) only [hi', e, go_sem]
theorem A4f {m n lo hi : Nat} {es fs : List (List PV)} {h} (hm : h m = some (.row 15 fs)) (hn : h n = some (.row 15 es)) (hne : m ≠ n) (hfs : fs ≠ []) (hes : es ≠ []) (hlt : lo < hi) : Aau Tryz.prog 71 [.os m, .ov n 15 lo hi] h (.pv (.b false)) := by
 intro F N ρ s a w hR hh vs hc;simp only [ConcL] at hc;obtain ⟨v, us, rfl, hv, u, us', rfl, hu, rfl⟩ := hc;have hsm := (hh m (by simp [A5, tn])).trans hm;have hsn := (hh n (by simp [A5, tn])).trans hn;refine ⟨.bool false, ?_, E5⟩;rw [run_callFunc_extern (fn := (Tryz.prog.funcs[71]?).getD default) (by kernel_rfl) (by kernel_rfl) (by kernel_rfl) (by kernel_rfl) (e := Extern.SlicesOverlaps.overlaps #[33, 33] #[4]) (by kernel_rfl)];rw [Jr (tS := 33) (e := 47) (by kernel_rfl) (by kernel_rfl) (by decide) hR hsm hsn hne hfs hes hlt hv hu];rfl
set_option maxHeartbeats 4000000 in
theorem W3 (es : List (List PV)) (cs : List PV) (i : Nat) (hi : i ≤ es.length) (hb : es.length ≤ 1000) (hes : ∀ c ∈ es, c.length = 15) (hcs : cs.length = 15) {h d} (h1 : h 900 = some (.row 15 es)) (h2 : h 901 = some (.row 15 [cs])) : FunOk Tryz.prog 52 [.os 900, .pv (.i .i64 i), .os 901] h d (.os d) [.del 900, .del 901, .new d (.row 15 (es.take i ++ cs :: es.drop i))] := by
 refine Acm Af fn52 (by simp) rfl fun F => ?_;simp only [Cx];by_cases he : i = es.length
 · subst he;have e1 : es.take es.length ++ cs :: es.drop es.length = es ++ [cs] := by simp
   rw [e1];simp (disch := omega) only [ir52, h1, h2, go_sem]
 · have hne : es ≠ [] := by intro e; subst e; simp at hi; exact he (by simpa using hi)
   simp (disch := omega) only [ir52, h1, h2, go_sem];intro c hc;by_cases hcap : c < es.length + 1
   · have hp : ((c : Int) < (es.length : Int) + ((1 : Nat) : Int)) = True := eq_true (by omega);have ek : ((es.length : Int) + ((1 : Nat) : Int) - (i : Int)).toNat = es.length + 1 - i := by omega
     (try simp only [D4, D3, D2, D1, D0, Dx, Dw, Dv]); simp (disch := omega) only [hp, ek, go_sem]
     generalize hT : List.take i es ++ List.replicate (es.length + 1 - i) _ = T;have hTl : T.length = es.length + 1 := by rw [← hT]; simp; omega
     have t1 : T.take i = es.take i := by
      rw [← hT, List.take_append_of_le_length (by simp; omega), List.take_take, Nat.min_self]
     have hi' : (es.take i).length = i := by simp; omega
     have m1 : min 1 (es.length + 1 - i) = 1 := by omega
     have m2 : [cs].take (es.length + 1 - i) = [cs] := List.take_of_length_le (by simp; omega);have hU : (es.take i ++ [cs] ++ T.drop (i + 1)).length = es.length + 1 := by simp [hTl]; omega
     have e1 : ((i : Int) + ((1 : Nat) : Int)).toNat = i + 1 := by omega
     have u1 : (es.take i ++ [cs] ++ T.drop (i + 1)).take (i + 1) = es.take i ++ [cs] := by
      rw [List.take_append_of_le_length (by simp; omega)];exact List.take_of_length_le (by simp; omega)
     have u2 : (es.take es.length).drop i = es.drop i := by rw [List.take_length]
     have u3 : min (es.drop i).length (es.length + 1 - (i + 1)) = es.length - i := by simp
     have u4 : (es.drop i).take (es.length + 1 - (i + 1)) = es.drop i := List.take_of_length_le (by simp);have u5 : (es.take i ++ [cs] ++ T.drop (i + 1)).drop (i + 1 + (es.length - i)) = [] := List.drop_of_length_le (by rw [hU]; omega);have u6 : es.take i ++ cs :: es.drop i = es.take i ++ [cs] ++ es.drop i := by simp
     simp only [hTl, t1, m1, m2, e1, List.length_singleton];simp only [hU, u1, u2, u3, u4, u5, u6, List.append_nil];exact ⟨by omega, by omega, trivial⟩
   · have hp : ((c : Int) < (es.length : Int) + ((1 : Nat) : Int)) = False := eq_false (by omega)
     (try simp only [D4, D3, D2, D1, D0, Dx, Dw, Dv]); simp (disch := omega) only [hp, go_sem]
     intro g hg hgs;have hg1 : g.length = 1 := by omega
     have e1 : ((i : Int) + ((1 : Nat) : Int)).toNat = i + 1 := by omega
     have hE : (es ++ g).length = es.length + 1 := by simp [hg1]
     refine ⟨by omega, ?_⟩;rw [e1];refine R5 (A4f (es := es ++ g) (fs := [cs]) rfl rfl (by decide) (by simp) (by simp [hne]) (by omega)) ?_;have v1 : ((es ++ g).take (es ++ g).length).drop i = (es ++ g).drop i := by rw [List.take_length]
     have v2 : min ((es ++ g).drop i).length ((es ++ g).length - (i + 1)) = es.length - i := by simp [hg1]; omega
     have v3 : ((es ++ g).drop i).take ((es ++ g).length - (i + 1)) = es.drop i := by
      rw [hE, List.drop_append_of_le_length hi, show es.length + 1 - (i + 1) = (es.drop i).length from by simp];exact List.take_left
     have v4 : (es ++ g).drop (i + 1 + (es.length - i)) = [] := List.drop_of_length_le (by omega);have v5 : ((es ++ g).take (i + 1) ++ es.drop i).length = es.length + 1 := by simp [hg1]; omega
     have v6 : ((es ++ g).take (i + 1) ++ es.drop i).take i = es.take i := by
      rw [List.take_append_of_le_length (by simp; omega), List.take_take, Nat.min_eq_left (by omega), List.take_append_of_le_length hi]
     have v7 : ((es ++ g).take (i + 1) ++ es.drop i).drop (i + 1) = es.drop i := by
      rw [List.drop_append_of_le_length (by simp; omega), List.drop_of_length_le (by simp; omega), List.nil_append]
     have m1 : min 1 (es.length + 1 - i) = 1 := by omega
     have m2 : [cs].take (es.length + 1 - i) = [cs] := List.take_of_length_le (by simp; omega);have u6 : es.take i ++ cs :: es.drop i = es.take i ++ [cs] ++ es.drop i := by simp
     simp (disch := omega) only [e1, v1, v2, v3, v4, v5, v6, v7, m1, m2, u6, go_sem]
theorem Ar5 {m n : Nat} (es : List (List PV)) (cs : List PV) (i : Nat) (hi : i ≤ es.length) (hb : es.length ≤ 1000) (hes : ∀ c ∈ es, c.length = 15) (hcs : cs.length = 15) (hmn : m ≠ n) (hm : m < 900) (hn : n < 900) {h d} (hd : d ≠ m ∧ d ≠ n ∧ d < 900) (h1 : h m = some (.row 15 es)) (h2 : h n = some (.row 15 [cs])) : FunOk Tryz.prog 52 [.os m, .pv (.i .i64 i), .os n] h d (.os d) [.del m, .del n, .new d (.row 15 (es.take i ++ cs :: es.drop i))] := by
 have hπ := Ajx (a := 900) (m := m) (b := 901) (n := n) (by omega) (by omega) (by omega) hmn;have e1 : sw2 900 m 901 n 900 = m := by unfold sw2; simp
 have e2 : sw2 900 m 901 n 901 = n := by unfold sw2; repeat' split <;> (try omega)
 have e3 : sw2 900 m 901 n d = d := by unfold sw2; repeat' split <;> (try omega)
 have := (W3 es cs i hi hb hes hcs (h := fun k => (h (sw2 900 m 901 n k))) (d := d) (by rw [← h1, e1]) (by rw [← h2, e2])).rn (π := sw2 900 m 901 n) hπ (d' := d);simp only [SV.rnL, SV.rn, HU.rn, Blk.rn, List.map_cons, List.map_nil, e1, e2, e3] at this;refine this.at fun k hk => ?_;simp only [A5, tn, List.append_nil, List.nil_append, List.mem_append, List.mem_singleton] at hk;simp only [hπ];rcases hk with rfl | rfl
 · rw [h1]; rfl
 · rw [h2]; rfl
theorem At9 {P : Program} (hm : P.follows .mixedOrders = true) {f N' : Nat} {rs : List Rv} {c : C} (hf : Be P f = some (N', rs, c)) {args : List SV} {h : Nat → Option Blk} {d : Nat} {sz : Nat} {es : List (List PV)} {X : Nat → SV} (hlen : args.length ≤ N')
 (hargs : SV.closedL args = true) (hX : ∀ (V V' : View) (ρ ρ' : Nat → Value) (n d : Nat) (v : Value), View.le V V' → ρ' d = ρ n → Conc V ρ (X n) v → Conc V' ρ' (X d) v)
 (hrun : ∀ F, sx (Sb P F N') c (My rs fun y g => ∃ n, y = X n ∧ g n = some (.row sz es)) (mk (C2 0 args) [])) :
 FunOk P f args h d (X d) [.new d (.row sz es)] := by
 obtain ⟨h1, h2, h3⟩ := Bk hargs;refine ⟨B9 hf, fun F N ρ s a w hR hh vs hc => ?_⟩;refine Calls.mono (Cs hm hf (h := h) hlen h2 Hv (by rw [h3]; exact hrun) hR hh hc) fun e w' he => ?_;obtain ⟨v, rfl, hg, N'', ρ', s', a', y, hR', hy, n, rfl, hn⟩ := he;rw [h1, Cu] at hR' hy;obtain ⟨base, cap, g1, g2, g3, g4, g5⟩ := hR'.own n _ hn;have hown : ∀ b, Cf (ρ' n) = some b → w.heap.size ≤ b ∧ b < w'.heap.size := fun b hb => by
  have ho : Cb ρ' s'.h b := ⟨n, _, hn, hb⟩
  exact ⟨(hR'.may b ho).resolve_right id, hR'.lt ho⟩
 have hnew := hR.adopt hg d (.row sz es) (ρ' n) hown fun _ => by
  refine ⟨base, cap, by rw [Az]; exact g1, g2, g3, g4, fun hcap => ?_⟩;obtain ⟨b, vs', ty, fr, k1, k2, k3, k4, k5, k6⟩ := g5 hcap;refine ⟨b, vs', ty, fr, k1, k2, k3, k4, k5, fun i c hi => (k6 i c hi).mono (Ba fun b' c' ho hc' => ⟨fun hb' => ?_, hc'⟩)⟩;rcases hb' with ⟨m, z, hm1, hm2⟩ | hb'
  · by_cases hmd : m = d
    · subst hmd;rw [Az] at hm2;exact ho (.inl ⟨n, _, hn, hm2⟩)
    · rw [Bv hmd] at hm2;simp only [FS.hup, FS.seth, FS.kill, hmd, if_false] at hm1;obtain ⟨z', hz', _⟩ := Option.map_eq_some_iff.1 hm1;exact ho (.inr (.inl ⟨m, z', hz', hm2⟩))
  · exact ho (.inr (.inr hb'))
 refine ⟨v, _, rfl, hnew.1, hX _ _ _ _ _ _ _ (Ba fun b' c' ho hc' => ⟨fun hb' => ?_, hc'⟩) Az hy⟩;rcases hb' with ⟨m, z, hm1, hm2⟩ | hb'
 · by_cases hmd : m = d
   · subst hmd;rw [Az] at hm2;exact ho (.inl ⟨n, _, hn, hm2⟩)
   · rw [Bv hmd] at hm2;simp only [FS.hup, FS.seth, FS.kill, hmd, if_false] at hm1;obtain ⟨z', hz', _⟩ := Option.map_eq_some_iff.1 hm1;exact ho (.inr (.inl ⟨m, z', hz', hm2⟩))
 · exact ho (.inr (.inr hb'))
theorem Am9 {f : Bool} {z : Nat} {es : List (List PV)} {h d} (hz : es = [] ∨ z = 15) (hb : es.length ≤ 1000) : FunOk Tryz.prog 20 [.pv (.sl f z es)] h d (.pv (.sl false 15 es)) [] := by
 refine Rt Af fn20 (by simp) rfl fun F => ?_;simp (disch := omega) only [ir20, go_sem];intro b hb';cases b
 · simp (disch := omega) only [go_sem]
 · have he : es = [] := by
    cases es with
    | nil => rfl
    | cons c l => exact absurd (hb' (by simp)) (by simp)
   subst he
   (try simp only [D4, D3, D2, D1, D0, Dx, Dw, Dv]); simp (disch := omega) only [go_sem]
   decide
theorem Am5 {f : Bool} {z : Nat} {es : List (List PV)} {h d} (hz : es = [] ∨ z = 11) (hb : es.length ≤ 1000) : FunOk Tryz.prog 21 [.pv (.sl f z es)] h d (.pv (.sl false 11 es)) [] := by
 refine Rt Af fn21 (by simp) rfl fun F => ?_;simp (disch := omega) only [ir21, go_sem];intro b hb';cases b
 · simp (disch := omega) only [go_sem]
 · have he : es = [] := by
    cases es with
    | nil => rfl
    | cons c l => exact absurd (hb' (by simp)) (by simp)
   subst he
   (try simp only [D4, D3, D2, D1, D0, Dx, Dw, Dv]); simp (disch := omega) only [go_sem]
   decide
theorem Af5 {V V' : View} {ρ ρ' : Nat → Value} {n d : Nat} {a b : List SV} {v : Value} (hV : V.le V') (he : ρ' d = ρ n) (ha : SV.closedL a = true) (hb : SV.closedL b = true) (h : Conc V ρ (.agg (a ++ .os n :: b)) v) : Conc V' ρ' (.agg (a ++ .os d :: b)) v := by
 simp only [Conc] at h ⊢;obtain ⟨vs, rfl, hc⟩ := h;obtain ⟨va, vb, rfl, h1, h2⟩ := Ks hc;simp only [Cells] at h2;obtain ⟨u, ub, rfl, h3, h4, h5, h6⟩ := h2;refine ⟨_, rfl, Mv (Eg hV ha h1) ?_⟩;simp only [Cells];refine ⟨u, ub, rfl, ?_, h4, h5, Eg hV hb h6⟩;simp only [Conc] at h3 ⊢;rw [he]; exact h3
def cpS (k : Nat) : SV := if k = 0 then .pv (.sl true 0 []) else .os 40
def cpK (l : List Obj) (k : Nat) : Option Blk := if k = 0 then none else some (.row 15 ((l.take k).map A4))
theorem Aak : cpS 0 = .pv (.sl true 0 []) := rfl
theorem Um {k : Nat} (h : k ≠ 0) : cpS k = .os 40 := if_neg h
theorem Au9 (l : List Obj) : cpK l 0 = none := rfl
theorem Alp {l : List Obj} {k : Nat} (h : k ≠ 0) : cpK l k = some (.row 15 ((l.take k).map A4)) := if_neg h
def Bp : SV := .agg [.vec 8 (List.replicate 8 (.i .u32 0)), .pv (.sl true 0 []), .pv (.sl true 0 []), .vec 8 (List.replicate 8 (.i .i64 0)), .vec 8 (List.replicate 8 (.b false))]
def Xt (s : St) : SV := .pv (.sl false 15 (s.ents.map Bj))
def Axj (s : St) (k : Nat) : FS := mk [(15, .pv (.i .i64 k)), (14, .pv (.i .i64 s.objs.length)), (13, .pv (.sl false 15 (s.objs.map A4))), (3, .p 3 0), (2, .p 2 0)] [(3, some (.var (.agg (A2 s (cpS k) (Xt s))))), (2, some (.var Bp)), (40, cpK s.objs k)]
theorem C4 {α : Type} {l : List α} {k : Nat} {y : α} (h : l[k]? = some y) : l.take (k + 1) = l.take k ++ [y] := by
 rw [List.take_add_one, h]; rfl
set_option maxHeartbeats 4000000 in
theorem Ao5 {s : St} (hn : s.objs.length ≤ 1000) (hv : ∀ o ∈ s.objs, o.vers.length ≤ 1000) (he : s.ents.length ≤ 1000) {F : Fr} {R : SV → (Nat → Option Blk) → Prop}
 (h1 : s.objs = [] → ∀ h, R (.agg (A2 s (.pv (.sl true 0 [])) (Xt s))) h) (h2 : s.objs ≠ [] → ∀ h, h 40 = some (.row 15 (s.objs.map A4)) → R (.agg (A2 s (.os 40) (Xt s))) h) :
 sx (Sb Tryz.prog F 31) ir8 (My [.c 2 26 true] R) (mk (C2 0 [.agg (Bi s)]) []) := by
 simp (disch := omega) only [ir8, Bi, A2, go_sem];refine Aa (Am9 (es := s.ents.map Bj) (.inr rfl) (by simpa using he)) ?_;simp (disch := omega) only [List.length_map, go_sem];refine A0 Af (Axj s) (fun k => k ≤ s.objs.length) (fun k => s.objs.length - k) 0 (by simp) (Ak ?_ ?_) fun k hk => ?_
 · simp (disch := omega) only [go_sem]
 · simp (disch := omega) only [Aak, Au9, A2, Xt, Bp, go_sem]
 by_cases hlt : k < s.objs.length
 · have hx : s.objs[k]? = some s.objs[k] := List.getElem?_eq_getElem hlt;have hel : (s.objs.map A4)[k]? = some (A4 s.objs[k]) := by rw [List.getElem?_map, hx]; rfl
   have ht := C4 hx;have hvk := hv _ (List.getElem_mem hlt);generalize s.objs[k] = o at *;have hsp : splice (A4 o) 14 [.sl false 11 (o.vers.map A6)] = A4 o := Aqr o false 11 o.vers;have hol := Ep o;have htm : (s.objs.take (k + 1)).map A4 = (s.objs.take k).map A4 ++ [A4 o] := by rw [ht]; simp
   have hkl : ((s.objs.take k).map A4).length = k := by simp; omega
   simp (disch := omega) only [Axj, A2, List.length_map, hel, Fc, go_sem];simp (disch := omega) only [Mi, go_sem];refine Aa (Am5 (es := o.vers.map A6) (.inr rfl) (by simpa using hvk)) ?_;by_cases h0 : k = 0
   · subst h0;simp (disch := omega) only [hsp, Aak, Au9, Fc, hol, A2, Xt, Bp, go_sem];have hS := Um (k := 1) (by omega);have hK := Alp (l := s.objs) (k := 1) (by omega);refine ⟨fun _ => trivial, (1 : Nat), by omega, by show _ - 1 < _ - 0; omega, Ei 27 40 (by decide) rfl (Ak ?_ ?_)⟩
     · simp (disch := omega) only [go_sem]
     · simp (disch := omega) only [hS, hK, htm, A2, Xt, Bp, go_sem];rfl
   · have hS := Um h0;have hK := Alp (l := s.objs) h0;simp (disch := omega) only [hsp, hS, hK, Fc, hol, A2, Xt, Bp, hkl, go_sem];have hS' := Um (k := k + 1) (by omega);have hK' := Alp (l := s.objs) (k := k + 1) (by omega);refine ⟨k + 1, by omega, by omega, Ei 27 40 (by decide) rfl (Ak ?_ ?_)⟩
     · simp (disch := omega) only [go_sem]
     · simp (disch := omega) only [hS', hK', htm, A2, Xt, Bp, go_sem]
 · obtain rfl : k = s.objs.length := by omega
   by_cases h0 : s.objs = []
   · have := h1 h0;have e : s.objs.length = 0 := by rw [h0]; rfl
     simp (disch := omega) only [Axj, A2, e, Aak, Au9, Xt, Bp, go_sem];exact this _
   · have e : s.objs.length ≠ 0 := fun e => h0 (List.eq_nil_of_length_eq_zero e);have hS := Um e;have hK := Alp (l := s.objs) e;simp (disch := omega) only [Axj, A2, hS, hK, Xt, Bp, go_sem];exact h2 h0 _ (by simp [mk, lk])
theorem Aoh {P : Program} (hm : P.follows .mixedOrders = true) {f N' : Nat} {rs : List Rv} {c : C} (hf : Be P f = some (N', rs, c)) {args : List SV} {h : Nat → Option Blk} {d : Nat} {sz : Nat} {es : List (List PV)} {l r : List SV} (hlen : args.length ≤ N')
 (hargs : SV.closedL args = true) (hl : SV.closedL l = true) (hr : SV.closedL r = true) (hrun : ∀ F, sx (Sb P F N') c (My rs fun y g => (∃ n, y = .agg (l ++ .os n :: r) ∧ g n = some (.row sz es)) ∨ ∃ z, y = .agg (l ++ .pv (.sl true z []) :: r) ∧ es = []) (mk (C2 0 args) [])) :
 FunOk P f args h d (.agg (l ++ .pv (.sl false sz es) :: r)) [] := by
 obtain ⟨h1, h2, h3⟩ := Bk hargs;refine ⟨B9 hf, fun F N ρ s a w hR hh vs hc => ?_⟩;refine Calls.mono (Cs hm hf (h := h) hlen h2 Hv (by rw [h3]; exact hrun) hR hh hc) fun e w' he => ?_;obtain ⟨v, rfl, hg, N'', ρ', s', a', y, hR', hy, hyy⟩ := he;rw [h1, Cu] at hR' hy;refine ⟨v, ρ, rfl, hR.grew hg, ?_⟩;have key : ∀ (x : SV), x.width = 1 → y = .agg (l ++ x :: r) → (∀ u, Conc (vw ⟨w, fun _ => False, F.out ρ s.h, fun _ => undef, []⟩ w' ρ' s') ρ' x u → PConc (vw F w' ρ s) (.sl false sz es) u) → Conc (vw F w' ρ (s.hup [])) ρ (.agg (l ++ .pv (.sl false sz es) :: r)) v := fun x hw e k => by
  subst e;simp only [Conc] at hy ⊢;obtain ⟨vs, rfl, hc⟩ := hy;obtain ⟨va, vb, rfl, g1, g2⟩ := Ks hc;simp only [Cells] at g2;obtain ⟨u, ub, rfl, g3, g4, g5, g6⟩ := g2;refine ⟨_, rfl, Mv (Eg (Ct hR') hl g1) ?_⟩;simp only [Cells];exact ⟨u, ub, rfl, by simp only [Conc]; exact k u g3, g4.trans hw, g5, Eg (Ct hR') hr g6⟩
 rcases hyy with ⟨n, e, hn⟩ | ⟨z, e, rfl⟩
 · refine key _ rfl e fun u hu => ?_;simp only [Conc] at hu;rw [hu.1]; exact Aea hR' hn
 · refine key _ rfl e fun u hu => ?_;simp only [Conc] at hu;exact (Kh (by simp) (.inl rfl) (.refl [])) _ _ (hu.mono (Ct hR'))
structure Fine (s : St) : Prop where
 on : s.objs.length ≤ 500
 ov : ∀ o ∈ s.objs, o.vers.length ≤ 500
 en : s.ents.length ≤ 500
theorem Am6 {s : St} (hs : Fine s) {h d} : FunOk Tryz.prog 8 [.agg (Bi s)] h d (.agg (Bi s)) [] := by
 have a1 : s.objs.length ≤ 1000 := Nat.le_trans hs.on (by omega);have a2 : ∀ o ∈ s.objs, o.vers.length ≤ 1000 := fun o ho => Nat.le_trans (hs.ov o ho) (by omega);have a3 : s.ents.length ≤ 1000 := Nat.le_trans hs.en (by omega);refine Aoh (l := [.vec 8 (vE s.known)]) (r := [Xt s, .vec 8 (iE s.wards), .vec 8 (wE s.ret)]) Af fn8 (by simp) rfl rfl rfl fun F => ?_;exact Ao5 a1 a2 a3 (fun e h => .inr ⟨0, rfl, by rw [e]; rfl⟩) fun _ h hh => .inl ⟨40, rfl, hh⟩
theorem Am8 {f : Bool} {z : Nat} {es : List (List PV)} {h d} (hz : es = [] ∨ z = 15) (hb : es.length ≤ 1000) : FunOk Tryz.prog 20 [.pv (.sl f z es)] h d (.pv (.fs 15 es)) [] := by
 refine Z9 Af fn20 (by simp) rfl fun F => ?_;simp (disch := omega) only [ir20, go_sem];intro b hb';cases b
 · simp (disch := omega) only [go_sem]
 · have he : es = [] := by
    cases es with
    | nil => rfl
    | cons c l => exact absurd (hb' (by simp)) (by simp)
   subst he
   (try simp only [D4, D3, D2, D1, D0, Dx, Dw, Dv]); simp (disch := omega) only [go_sem]
   decide
theorem Am4 {f : Bool} {z : Nat} {es : List (List PV)} {h d} (hz : es = [] ∨ z = 11) (hb : es.length ≤ 1000) : FunOk Tryz.prog 21 [.pv (.sl f z es)] h d (.pv (.fs 11 es)) [] := by
 refine Z9 Af fn21 (by simp) rfl fun F => ?_;simp (disch := omega) only [ir21, go_sem];intro b hb';cases b
 · simp (disch := omega) only [go_sem]
 · have he : es = [] := by
    cases es with
    | nil => rfl
    | cons c l => exact absurd (hb' (by simp)) (by simp)
   subst he
   (try simp only [D4, D3, D2, D1, D0, Dx, Dw, Dv]); simp (disch := omega) only [go_sem]
   decide
theorem Ara {s : St} (h : s.objs = []) : Imp (.agg (A2 s (.pv (.sl true 0 [])) (Cd s))) (.agg (Ff s)) := by
 unfold Ff;rw [h];exact Rp ⟨⟨Imp.refl _, rfl⟩, ⟨Gw Jf, rfl⟩, ⟨Imp.refl _, rfl⟩, ⟨Imp.refl _, rfl⟩, ⟨Imp.refl _, rfl⟩, trivial⟩
def A6n (l : List Obj) (k : Nat) : Option Blk := if k = 0 then none else some (.row 15 ((l.take k).map Av))
theorem Aiu (l : List Obj) : A6n l 0 = none := rfl
theorem Ac2 {l : List Obj} {k : Nat} (h : k ≠ 0) : A6n l k = some (.row 15 ((l.take k).map Av)) := if_neg h
def Aj3 (s : St) (k : Nat) : FS := mk [(15, .pv (.i .i64 k)), (14, .pv (.i .i64 s.objs.length)), (13, .pv (.sl false 15 (s.objs.map A4))), (3, .p 3 0), (2, .p 2 0)] [(3, some (.var (.agg (A2 s (cpS k) (Cd s))))), (2, some (.var Bp)), (40, A6n s.objs k)]
theorem W7 (l : List Obj) : ∀ c ∈ l.map Av, c.length = 15 := fun c hc => by
 obtain ⟨o, _, rfl⟩ := List.mem_map.1 hc;exact F8 o
set_option maxHeartbeats 4000000 in
theorem Qj {s : St} (hn : s.objs.length ≤ 1000) (hv : ∀ o ∈ s.objs, o.vers.length ≤ 1000) (he : s.ents.length ≤ 1000) {F : Fr} {R : SV → (Nat → Option Blk) → Prop}
 (h1 : s.objs = [] → ∀ h, R (.agg (A2 s (.pv (.sl true 0 [])) (Cd s))) h) (h2 : s.objs ≠ [] → ∀ h, h 40 = some (.row 15 (s.objs.map Av)) → R (.agg (A2 s (.os 40) (Cd s))) h) :
 sx (Sb Tryz.prog F 31) ir8 (My [.c 2 26 true] R) (mk (C2 0 [.agg (Bi s)]) []) := by
 simp (disch := omega) only [ir8, Bi, A2, go_sem];refine Aa (Am8 (es := s.ents.map Bj) (.inr rfl) (by simpa using he)) ?_;simp (disch := omega) only [List.length_map, go_sem];refine A0 Af (Aj3 s) (fun k => k ≤ s.objs.length) (fun k => s.objs.length - k) 0 (by simp) (Ak ?_ ?_) fun k hk => ?_
 · simp (disch := omega) only [go_sem]
 · simp (disch := omega) only [Aak, Aiu, A2, Cd, Bp, go_sem]
 by_cases hlt : k < s.objs.length
 · have hx : s.objs[k]? = some s.objs[k] := List.getElem?_eq_getElem hlt;have hel : (s.objs.map A4)[k]? = some (A4 s.objs[k]) := by rw [List.getElem?_map, hx]; rfl
   have ht := C4 hx;have hvk := hv _ (List.getElem_mem hlt);generalize s.objs[k] = o at *;have hsp := Amg o;have hol := F8 o;have hol2 := Ep o;have htm : (s.objs.take (k + 1)).map Av = (s.objs.take k).map Av ++ [Av o] := by rw [ht]; simp
   have hkl : ((s.objs.take k).map Av).length = k := by simp; omega
   simp (disch := omega) only [Aj3, A2, List.length_map, hel, Fc, go_sem];simp (disch := omega) only [Mi, go_sem];refine Aa (Am4 (es := o.vers.map A6) (.inr rfl) (by simpa using hvk)) ?_;by_cases h0 : k = 0
   · subst h0;simp (disch := omega) only [hsp, Aak, Aiu, Fc, Vb, hol, hol2, A2, Cd, Bp, go_sem];have hS := Um (k := 1) (by omega);have hK := Ac2 (l := s.objs) (k := 1) (by omega);refine ⟨fun _ => trivial, (1 : Nat), by omega, by show _ - 1 < _ - 0; omega, Ei 27 40 (by decide) rfl (Ak ?_ ?_)⟩
     · simp (disch := omega) only [go_sem]
     · simp (disch := omega) only [hS, hK, htm, A2, Cd, Bp, go_sem];rfl
   · have hS := Um h0;have hK := Ac2 (l := s.objs) h0;simp (disch := omega) only [hsp, hS, hK, Fc, Vb, hol, hol2, A2, Cd, Bp, hkl, go_sem];have hS' := Um (k := k + 1) (by omega);have hK' := Ac2 (l := s.objs) (k := k + 1) (by omega);refine ⟨k + 1, by omega, by omega, Ei 27 40 (by decide) rfl (Ak ?_ ?_)⟩
     · simp (disch := omega) only [go_sem]
     · simp (disch := omega) only [hS', hK', htm, A2, Cd, Bp, go_sem]
 · obtain rfl : k = s.objs.length := by omega
   by_cases h0 : s.objs = []
   · have := h1 h0;have e : s.objs.length = 0 := by rw [h0]; rfl
     simp (disch := omega) only [Aj3, A2, e, Aak, Aiu, Cd, Bp, go_sem];exact this _
   · have e : s.objs.length ≠ 0 := fun e => h0 (List.eq_nil_of_length_eq_zero e);have hS := Um e;have hK := Ac2 (l := s.objs) e;simp (disch := omega) only [Aj3, A2, hS, hK, Cd, Bp, go_sem];exact h2 h0 _ (by simp [mk, lk])
theorem Am7 {s : St} (hs : Fine s) {h d} : FunOk Tryz.prog 8 [.agg (Bi s)] h d (.agg (A2 s (.os d) (Cd s))) [.new d (.row 15 (s.objs.map Av))] := by
 have a1 : s.objs.length ≤ 1000 := Nat.le_trans hs.on (by omega);have a2 : ∀ o ∈ s.objs, o.vers.length ≤ 1000 := fun o ho => Nat.le_trans (hs.ov o ho) (by omega);have a3 : s.ents.length ≤ 1000 := Nat.le_trans hs.en (by omega);by_cases h0 : s.objs = []
 · rw [h0];refine FunOk.nilos (a := [.vec 8 (vE s.known)]) (b := [Cd s, .vec 8 (iE s.wards), .vec 8 (wE s.ret)]) (z := 0) (sz := 15) ?_ rfl rfl (by omega);refine Aw Af fn8 (by simp) rfl rfl fun F => ?_;exact Qj a1 a2 a3 (fun _ _ => rfl) fun e => absurd h0 e
 · refine At9 (X := fun n => .agg (A2 s (.os n) (Cd s))) Af fn8 (by simp) rfl (fun V V' ρ ρ' n d v hV he hc => Af5 (a := [.vec 8 (vE s.known)]) (b := [Cd s, .vec 8 (iE s.wards), .vec 8 (wE s.ret)]) hV he rfl rfl hc) fun F => ?_;exact Qj a1 a2 a3 (fun e => absurd e h0) fun _ h hh => ⟨40, rfl, hh⟩
theorem Zr {s : St} (hs : Fine s) {h d} : FunOk Tryz.prog 8 [.agg (Bi s)] h d (.agg (Ff s)) [] := by
 have a1 : s.objs.length ≤ 1000 := Nat.le_trans hs.on (by omega);have a2 : ∀ o ∈ s.objs, o.vers.length ≤ 1000 := fun o ho => Nat.le_trans (hs.ov o ho) (by omega);have a3 : s.ents.length ≤ 1000 := Nat.le_trans hs.en (by omega);refine Aig Af fn8 (by simp) rfl rfl fun F => ?_;refine Qj a1 a2 a3 (fun e h => .inl ?_) fun _ h hh => .inr ⟨40, 15, _, hh, ?_⟩
 · have := Ara (s := s) e;exact this
 · have : (SV.agg (A2 s (.os 40) (Cd s))).frz 40 (.fs 15 (s.objs.map Av)) = .agg (Ff s) := by simp [A2, Ff, Cd, SV.frz, SV.frzL]
   rw [this]; exact Imp.refl _
def Aly : List SV → List PV → Prop
 | [], cs => cs = []
 | .pv x :: l, cs => ∃ r, cs = x :: r ∧ Aly l r
 | .vec n c :: l, cs => c.length = n ∧ ∃ r, cs = c ++ r ∧ Aly l r
 | _ :: _, _ => False
theorem Tu {V : View} {ρ : Nat → Value} : ∀ {l : List SV} {cs : List PV} {vs : List Value}, Aly l cs → PCells V cs vs → Cells V ρ l vs
 | [], cs, vs, h, hp => by
   have h : cs = [] := h;subst h;simp only [Cells];exact List.eq_nil_of_length_eq_zero hp.1.symm
 | .pv x :: l, cs, vs, h, hp => by
   obtain ⟨r, rfl, h⟩ := h;simp only [Cells];obtain ⟨v, hv, hx⟩ := hp.2 0 x rfl;cases vs with
   | nil => cases hv
   | cons u us =>
     have : u = v := by simpa using hv
     subst this;have hf : Ar u = [u] := by have := hx.one; cases u <;> simp_all [Ar, A3]
     refine ⟨u, us, by rw [hf]; rfl, by simp only [Conc]; exact hx, by rw [hf]; rfl, fun c hc => ?_, Tu h ⟨by simpa using hp.1, fun j y hy => by simpa using hp.2 (j + 1) y (by simpa using hy)⟩⟩;rw [hf] at hc;rw [List.mem_singleton.1 hc];exact hx.one
 | .vec n c :: l, cs, vs, h, hp => by
   obtain ⟨hn, r, rfl, h⟩ := h;simp only [Cells];have hl : c.length + r.length = vs.length := by simpa using hp.1
   have hA : PCells V c (vs.take n) := ⟨by simp; omega, fun j y hy => by
    have hj := (List.getElem?_eq_some_iff.1 hy).1;obtain ⟨v, h1, h2⟩ := hp.2 j y (by rw [List.getElem?_append_left hj]; exact hy);exact ⟨v, by rw [List.getElem?_take_of_lt (by omega)]; exact h1, h2⟩⟩
   refine ⟨.agg ⟨vs.take n⟩, vs.drop n, (List.take_append_drop n vs).symm, by simp only [Conc]; exact ⟨_, rfl, by simp; omega, hA⟩, by simp [Ar, SV.width]; omega, fun x hx => hA.one x hx, Tu h ⟨by simp; omega, fun j y hy => by
    obtain ⟨v, h1, h2⟩ := hp.2 (n + j) y (by rw [List.getElem?_append_right (by omega)]; simpa [hn] using hy);exact ⟨v, by rw [List.getElem?_drop]; exact h1, h2⟩⟩⟩
 | .agg _ :: _, _, _, h, _ => h.elim
 | .tup _ :: _, _, _, h, _ => h.elim
 | .p _ _ :: _, _, _, h, _ => h.elim
 | .ps _ _ :: _, _, _, h, _ => h.elim
 | .pr _ _ _ _ :: _, _, _, h, _ => h.elim
 | .pi _ _ _ _ :: _, _, _, h, _ => h.elim
 | .os _ :: _, _, _, h, _ => h.elim
 | .ov _ _ _ _ :: _, _, _, h, _ => h.elim
 | .fn _ _ :: _, _, _, h, _ => h.elim
 | .dead :: _, _, _, h, _ => h.elim
theorem Alc {l : List SV} {cs : List PV} {n : Nat} (h : Aly l cs) : Imp (.vec n cs) (.agg l) := by
 intro V ρ v hv;simp only [Conc] at hv ⊢;obtain ⟨vs, rfl, _, hp⟩ := hv;exact ⟨vs, rfl, Tu h hp⟩
def Aj0 (a b : Vc) (k : Nat) : FS := mk [(8, .pv (.i .i64 k)), (7, .vec 8 (vE a)), (4, .pv (.b false)), (3, .p 3 0)] [(3, some (.var (.vec 8 (vE b))))]
theorem A87 (a b : Vc) {h d} : FunOk Tryz.prog 24 [.vec 8 (vE a), .vec 8 (vE b)] h d (.pv (.b (decide (Yn a b)))) [] := by
 refine Aw Af fn24 (by simp) rfl rfl fun F => ?_;simp (disch := omega) only [ir24, go_sem];refine A0 Af (Aj0 a b) (fun k => k ≤ 8 ∧ ∀ i, i < k → a i ≤ b i) (fun k => 8 - k) 0 (by simp) (Ak ?_ ?_) fun k hk => ?_
 · simp (disch := omega) only [go_sem]
 · simp (disch := omega) only [go_sem]
 obtain ⟨hk, hle⟩ := hk;by_cases hlt : k < 8
 · by_cases hc : a k ≤ b k
   · simp (disch := omega) only [Aj0, go_sem];refine Ad (k + 1) _ _ rfl ⟨by omega, fun i hi => ?_⟩ (by omega) ?_ ?_
     · by_cases e : i = k
       · subst e; exact hc
       · exact hle i (by omega)
     · simp (disch := omega) only [go_sem]
     · simp (disch := omega) only [go_sem]
   · have hn : ¬ Yn a b := fun h => hc (h k hlt);simp (disch := omega) only [Aj0, hn, go_sem]
 · have hn : Yn a b := fun i hi => hle i (by omega);simp (disch := omega) only [Aj0, hn, go_sem]
theorem U6 (g : SlI) (h : g.ok) : Imp (.pv g.pv) (.pv (.sl g.f 2 (g.l.map Em))) := Gw (Kh id (h.imp (fun e => by rw [e]; rfl) id) (.refl _))
def Si (r : Int) (q : Nat) (s : List UInt8) : Ver := ⟨r, q, s, fun _ => 0⟩
theorem Ajo (r : Int) (q : Nat) (s : List UInt8) : Imp (.agg [.vec 2 [.i .i64 r, .i .u32 q], .pv (.s s), .vec 8 (vE fun _ => 0)]) (.vec 11 (A6 (Si r q s))) := Hd (by rfl) (Hb _)
theorem Aew {l : List Ver} {g : SlI} {r : Int} {q : Nat} {s : List UInt8} {h d} (hg : g.ok) (hs : Ck l) (hn : l.length ≤ 900) (hbn : g.l.length ≤ 900) (hm : C7 l g.l) :
 FunOk Tryz.prog 56 [.pv (.sl false 11 (l.map A6)), .pv g.pv, .agg [.vec 2 [.i .i64 r, .i .u32 q], .pv (.s s), .vec 8 (vE fun _ => 0)]] h d (.tup [.pv (.sl true 0 []), .pv (.i .i64 2)]) [] := by
 refine FunOk.imp (args' := [.pv (.sl false 11 (l.map A6)), .pv (.sl g.f 2 (g.l.map Em)), .vec 11 (A6 (Si r q s))]) ?_ ⟨Imp.refl _, U6 g hg, Ajo r q s, trivial⟩ (by simp [A5, tn]);exact Ahr rfl rfl hs hn hbn hm
def Ea (e : Evt) : Bo := match e.base.l with
 | [] => (0, 0)
 | b :: _ => b
def E6 (l : List Ver) (e : Evt) : List UInt8 :=
 if e.kind = 5 then e.data
 else if e.kind = 4 then Pk (Dp l (Ea e).1 (Ea e).2).1 e.off.toNat
 else Iz (Dp l (Ea e).1 (Ea e).2).1 e.off.toNat e.data
structure FitsW (l : List Ver) (e : Evt) : Prop where
 k : e.kind = 3 ∨ e.kind = 4 ∨ e.kind = 5
 off : e.kind ≠ 5 → 0 ≤ e.off ∧ e.off ≤ 200
 len : e.kind = 3 → e.off + e.data.length ≤ 200
 data : ∀ v ∈ l, v.data.length ≤ 200
theorem Aah {l : List Ver} (h : ∀ v ∈ l, v.data.length ≤ 200) (r : Int) (q : Nat) : (Dp l r q).1.length ≤ 200 := by
 unfold Dp;split
 · simp
 · split
   · rename_i v hv; exact h v (Aad hv).1
   · simp
theorem Aai (l : List Ver) (r : Int) (q : Nat) : (Dp l r q).2 = 0 ∨ (Dp l r q).2 = 2 := by
 unfold Dp;split
 · exact .inl rfl
 · split
   · exact .inl rfl
   · exact .inr rfl
set_option maxHeartbeats 2000000 in
theorem Ayj {l : List Ver} {e : Evt} (he : ev e) (hf : FitsW l e) (hs : Ck l) (hn : l.length ≤ 900) {h d} :
 FunOk Tryz.prog 55 [.pv (.sl false 11 (l.map A6)), .vec 21 (Bq e)] h d (if e.kind = 5 ∨ (Dp l (Ea e).1 (Ea e).2).2 = 0 then .tup [.pv (.s (E6 l e)), .pv (.i .i64 0)] else .tup [.pv (.s []), .pv (.i .i64 2)]) [] := by
 refine Aw Af fn55 (by simp) rfl (by split <;> rfl) fun F => ?_;by_cases h5 : e.kind = 5
 · rw [if_pos (.inl h5)];have hb : E6 l e = e.data := if_pos h5;simp (disch := omega) only [ir55, Ae, h5, Hc, hb, go_sem]
 · have hz : (if e.kind = 5 ∨ (Dp l (Ea e).1 (Ea e).2).2 = 0 then (SV.tup [.pv (.s (E6 l e)), .pv (.i .i64 0)]) else .tup [.pv (.s []), .pv (.i .i64 2)]) = if (Dp l (Ea e).1 (Ea e).2).2 = 0 then (SV.tup [.pv (.s (E6 l e)), .pv (.i .i64 0)]) else .tup [.pv (.s []), .pv (.i .i64 2)] := by
    by_cases hd : (Dp l (Ea e).1 (Ea e).2).2 = 0
    · rw [if_pos (.inr hd), if_pos hd]
    · rw [if_neg (fun q => q.elim h5 hd), if_neg hd]
   rw [hz];have hoff := hf.off h5;have hdl := Aah hf.data (Ea e).1 (Ea e).2;have hpv : e.base.pv = .sl e.base.f e.base.z (e.base.l.map Em) := rfl;cases hbl : e.base.l with
   | nil =>
     obtain ⟨b, hb⟩ : ∃ b : Bo, b = (0, 0) := ⟨_, rfl⟩
     have hbi : Ea e = b := by unfold Ea; rw [hbl, hb]
     simp (disch := omega) only [ir55, Ae, h5, Gp, hpv, hbl, List.map_nil, go_sem];rw [hbi] at hdl ⊢;have hde := Aai l b.1 b.2;have hbv : E6 l e = if e.kind = 4 then Pk (Dp l b.1 b.2).1 e.off.toNat else Iz (Dp l b.1 b.2).1 e.off.toNat e.data := by unfold E6; rw [if_neg h5, hbi]
     refine Aa (FunOk.imp (Ar8 (l := l) b.1 b.2 rfl rfl hs (by omega)) ⟨Imp.refl _, by subst hb; exact Hd (by rfl) rfl, trivial⟩ (by simp [A5, tn])) ?_;generalize Dp l b.1 b.2 = w at *;by_cases hw : w.2 = 0
     · rw [if_pos hw];by_cases h4 : e.kind = 4
       · rw [if_pos h4] at hbv;have hc := Ls (data := w.1) (n := e.off) (by omega);simp (disch := omega) only [hw, Ae, h4, Ja, go_sem];refine Aa (A11 w.1 e.off (by omega)) ?_;simp (disch := omega) only [hc, hbv, go_sem]
       · rw [if_neg h4] at hbv;have h3 : e.kind = 3 := by have := hf.k; omega
         have hl := hf.len h3;have hc := Jg (data := w.1) (off := e.off) (s := e.data) (by unfold D7; omega);simp (disch := omega) only [hw, Ae, h4, Ja, Hc, go_sem];refine Aa (Akl w.1 e.data e.off) ?_;simp (disch := omega) only [hc, hbv, go_sem]
     · rw [if_neg hw];have hw2 := hde.resolve_left hw;simp (disch := omega) only [hw2, go_sem]
   | cons b t =>
     have hbi : Ea e = b := by unfold Ea; rw [hbl]
     have hok : e.base.z = 2 := he.2.1.resolve_left (by rw [hbl]; simp);have h0 : (List.map Em (b :: t))[0]? = some (Em b) := rfl;have hpos : (0 : Int) < ((t.length : Int) + 1) := by omega
     simp (disch := omega) only [ir55, Ae, h5, Gp, hpv, hbl, hok, List.length_map, h0, E3, go_sem];rw [hbi] at hdl ⊢;have hde := Aai l b.1 b.2;have hbv : E6 l e = if e.kind = 4 then Pk (Dp l b.1 b.2).1 e.off.toNat else Iz (Dp l b.1 b.2).1 e.off.toNat e.data := by unfold E6; rw [if_neg h5, hbi]
     refine Aa (FunOk.imp (Ar8 (l := l) b.1 b.2 rfl rfl hs (by omega)) ⟨Imp.refl _, Imp.refl _, trivial⟩ (by simp [A5, tn])) ?_;generalize Dp l b.1 b.2 = w at *;by_cases hw : w.2 = 0
     · rw [if_pos hw];by_cases h4 : e.kind = 4
       · rw [if_pos h4] at hbv;have hc := Ls (data := w.1) (n := e.off) (by omega);simp (disch := omega) only [hw, Ae, h4, Ja, go_sem];refine Aa (A11 w.1 e.off (by omega)) ?_;simp (disch := omega) only [hc, hbv, go_sem]
       · rw [if_neg h4] at hbv;have h3 : e.kind = 3 := by have := hf.k; omega
         have hl := hf.len h3;have hc := Jg (data := w.1) (off := e.off) (s := e.data) (by unfold D7; omega);simp (disch := omega) only [hw, Ae, h4, Ja, Hc, go_sem];refine Aa (Akl w.1 e.data e.off) ?_;simp (disch := omega) only [hc, hbv, go_sem]
     · rw [if_neg hw];have hw2 := hde.resolve_left hw;simp (disch := omega) only [hw2, go_sem]
abbrev Aj (e : Evt) : Bo := (e.rep, e.seq)
abbrev Ax (e : Evt) : Bo := (e.orep, e.oseq)
abbrev Hf (e : Evt) : Bo := (e.drep, e.dseq)
theorem Z2 {l : List Obj} (hs : El l) {i : Bo} {o : Obj} (h : l[B0 l i]? = some o) (ho : o.id = i) : isO l i = true := by
 rw [Rk hs, h]; simp [ho]
theorem Au6 {l : List Ver} {e : Evt} (h : ¬ C7 l e.base.l) : (Dp l (Ea e).1 (Ea e).2).2 = 0 := by
 have key : ∀ b : Bo, (b = (0, 0) ∨ b ∈ e.base.l) → (Dp l b.1 b.2).2 = 0 := fun b hb => by
  by_cases hz : b.1 = 0 ∧ b.2 = 0
  · rw [R2 hz]
  · cases hv : Bt l b.1 b.2 with
    | some v => rw [Mu hz hv]
    | none =>
      rcases hb with rfl | hb
      · exact absurd ⟨rfl, rfl⟩ hz
      · exact absurd ⟨b, hb, hv⟩ h
 refine key _ ?_;unfold Ea;cases e.base.l with
 | nil => exact .inl rfl
 | cons b t => exact .inr List.mem_cons_self
structure StOk (s : St) : Prop where
 fine : Fine s
 so : El s.objs
 se : Dk s.ents
structure VerOk (o : Obj) (e : Evt) : Prop where
 sv : Ck o.vers
 fw : FitsW o.vers e
 new : Bt o.vers e.rep e.seq = none
 bl : e.base.l.length ≤ 900
theorem Bw {rs : List Rv} {R : SV → FS → Prop} {s : FS} (h : Lc s rs fun l => R (one l) s) : Ys rs R s := ⟨s, .same s, h⟩
def wrO (s : St) (e : Evt) (o : Obj) : List Obj := s.objs.set (B0 s.objs (Ax e)) { o with vers := Fk o.vers e.base.l (Si e.rep e.seq (E6 o.vers e)) }
def W9 (e : Evt) : Obj := ⟨Aj e, decide (e.kind = 2), Aj e, e.name, fun _ => 0, []⟩
def Fv (e : Evt) (obj : Bo) : Ent := ⟨Aj e, Hf e, e.name, obj, fun _ => 0⟩
theorem A0g (e : Evt) (obj : Bo) : Imp (.agg [.vec 2 [.i .i64 e.rep, .i .u32 e.seq], .vec 2 [.i .i64 e.drep, .i .u32 e.dseq], .pv (.s e.name), .vec 2 [.i .i64 obj.1, .i .u32 obj.2], .vec 8 (vE fun _ => 0)]) (.vec 15 (Bj (Fv e obj))) := Hd (by rfl) (Dn _)
theorem Ayn {l : List Ent} (e : Evt) (obj : Bo) {h d} (hs : Dk l) (hn : l.length ≤ 1000) :
 FunOk Tryz.prog 53 [.pv (.sl false 15 (l.map Bj)), .agg [.vec 2 [.i .i64 e.rep, .i .u32 e.seq], .vec 2 [.i .i64 e.drep, .i .u32 e.dseq], .pv (.s e.name), .vec 2 [.i .i64 obj.1, .i .u32 obj.2], .vec 8 (vE fun _ => 0)]] h d (.os d) [.new d (.row 15 ((Qr l (Fv e obj)).map Bj))] :=
 FunOk.imp (A4u (l := l) (Fv e obj) rfl rfl hs hn) ⟨Imp.refl _, A0g e obj, trivial⟩ (by simp [A5, tn])
def mkS (s : St) (e : Evt) : St := { s with objs := s.objs.take (B0 s.objs (Aj e)) ++ W9 e :: s.objs.drop (B0 s.objs (Aj e)), ents := Qr s.ents (Fv e (Aj e)) }
theorem Ayl {l : List Ver} {g : SlI} {r : Int} {q : Nat} {s : List UInt8} {h d} (hg : g.ok) (hs : Ck l) (hn : l.length ≤ 900) (hbn : g.l.length ≤ 900) (hm : ¬ C7 l g.l) (ho : Bt l r q = none) :
 FunOk Tryz.prog 56 [.pv (.fs 11 (l.map A6)), .pv g.pv, .agg [.vec 2 [.i .i64 r, .i .u32 q], .pv (.s s), .vec 8 (vE fun _ => 0)]] h d (.tup [.pv (.fs 11 ((Fk l g.l (Si r q s)).map A6)), .pv (.i .i64 0)]) [] := by
 refine FunOk.imp (args' := [.pv (.sl false 11 (l.map A6)), .pv (.sl g.f 2 (g.l.map Em)), .vec 11 (A6 (Si r q s))]) ?_ ⟨Gw (Me (.refl _)), U6 g hg, Ajo r q s, trivial⟩ (by simp [A5, tn]);refine Aif Af fn56 (by simp) rfl rfl fun F => ?_;exact Alx hs hn hbn (fun h => absurd h hm) (fun _ h => by
  have ho' : Bt l (Si r q s).rep (Si r q s).seq = none := ho;rw [ho'] at h; cases h) (fun _ _ g n hg => .inl ⟨n, rfl, hg⟩)
theorem Ab1 {l : List Ver} {g : SlI} {r : Int} {q : Nat} {s : List UInt8} {h d} (hg : g.ok) (hs : Ck l) (hn : l.length ≤ 900) (hbn : g.l.length ≤ 900) (hm : C7 l g.l) :
 FunOk Tryz.prog 56 [.pv (.fs 11 (l.map A6)), .pv g.pv, .agg [.vec 2 [.i .i64 r, .i .u32 q], .pv (.s s), .vec 8 (vE fun _ => 0)]] h d (.tup [.pv (.sl true 0 []), .pv (.i .i64 2)]) [] :=
 FunOk.imp (Aew hg hs hn hbn hm) ⟨Gw (Me (.refl _)), Imp.refl _, Imp.refl _, trivial⟩ (by simp [A5, tn])
theorem Aev {l : List Ver} {e : Evt} (he : ev e) (hf : FitsW l e) (hs : Ck l) (hn : l.length ≤ 900) {h d} :
 FunOk Tryz.prog 55 [.pv (.fs 11 (l.map A6)), .vec 21 (Bq e)] h d (if e.kind = 5 ∨ (Dp l (Ea e).1 (Ea e).2).2 = 0 then .tup [.pv (.s (E6 l e)), .pv (.i .i64 0)] else .tup [.pv (.s []), .pv (.i .i64 2)]) [] :=
 FunOk.imp (Ayj he hf hs hn) ⟨Gw (Me (.refl _)), Imp.refl _, trivial⟩ (by simp [A5, tn])
theorem Ab2 {l : List Ent} (e : Evt) (obj : Bo) {h d} (hs : Dk l) (hn : l.length ≤ 1000) :
 FunOk Tryz.prog 53 [.pv (.fs 15 (l.map Bj)), .agg [.vec 2 [.i .i64 e.rep, .i .u32 e.seq], .vec 2 [.i .i64 e.drep, .i .u32 e.dseq], .pv (.s e.name), .vec 2 [.i .i64 obj.1, .i .u32 obj.2], .vec 8 (vE fun _ => 0)]] h d (.pv (.fs 15 ((Qr l (Fv e obj)).map Bj))) [] :=
 FunOk.asF rfl fun h d => FunOk.imp (Ayn e obj hs hn) ⟨Gw (Me (.refl _)), Imp.refl _, trivial⟩ (by simp [A5, tn])
theorem Akp {l : List Ent} (i b : Bo) {h d} (hs : Dk l) (hn : l.length ≤ 1000) :
 FunOk Tryz.prog 76 [.pv (.fs 15 (l.map Bj)), .vec 2 [.i .i64 i.1, .i .u32 i.2], .vec 2 [.i .i64 b.1, .i .u32 b.2]] h d (.pv (.fs 15 ((killL l i b).map Bj))) [] :=
 FunOk.asF rfl fun h d => FunOk.imp (Ayf (a := .pv (.sl false 15 (l.map Bj))) (f := false) i b rfl rfl hs hn) ⟨Gw (Me (.refl _)), Imp.refl _, Imp.refl _, trivial⟩ (by simp [A5, tn])
theorem O6 {l : List Obj} {k : Nat} {o : Obj} (h : l[k]? = some o) : (l.map Av).getD k [] = Av o := by
 rw [List.getD_eq_getElem?_getD, List.getElem?_map, h]; rfl
def Ec (s : St) : SV := .agg (A2 s (.os 38) (Cd s))
theorem C9 (s : St) : ∀ n ∈ tn (Ec s), n = 6 ∨ n = 38 := fun n hn => by
 simp [Ec, A2, Cd, tn, A5] at hn; exact .inr hn
set_option maxHeartbeats 4000000 in
theorem A4m {s : St} {e : Evt} {o : Obj} (hs : StOk s) (he : ev e) (ho : s.objs[B0 s.objs (Ax e)]? = some o) (hid : o.id = Ax e) (hd : o.dir = false) (hv : VerOk o e) (hm : ¬ C7 o.vers e.base.l) {h d}
 (hg : h 6 = some (.var (Ec s))) (h38 : h 38 = some (.row 15 (s.objs.map Av))) :
 DeepOk Tryz.prog 26 [.p 6 0, .vec 21 (Bq e)] h d (.pv (.i .i64 0)) [.new 38 (.row 15 ((wrO s e o).map Av)), .upd 6 (.var (Ec s))] := by
 refine Ew Af fn26 (by simp) hg h38 (by decide) rfl (C9 s) fun F => ?_;have hk := hv.fw.k;have n8 : ¬ e.kind = 8 := by omega
 have n9 : ¬ e.kind = 9 := by omega
 have n1 : ¬ e.kind = 1 := by omega
 have n2 : ¬ e.kind = 2 := by omega
 have n6 : ¬ e.kind = 6 := by omega
 have n7 : ¬ e.kind = 7 := by omega
 have hi := Z2 hs.so ho hid;have hlt := (List.getElem?_eq_some_iff.1 ho).1;have hel : (s.objs.map Av)[B0 s.objs (Ax e)]? = some (Av o) := by rw [List.getElem?_map, ho]; rfl
 have hgd := O6 ho;have a1 := hs.fine.on;have a2 := hs.fine.ov o (List.mem_of_getElem? ho);have hb := Aev he hv.fw hv.sv (by omega) (h := fun _ => none) (d := 0);rw [if_pos (.inr (Au6 hm))] at hb;simp (disch := omega) only [ir26, Ec, A2, Cd, Ae, n8, n9, n1, n2, A9, go_sem];refine Aa (Ju (l := s.objs) (Ax e) rfl rfl hs.so (by omega)) ?_;simp (disch := omega) only [hi, List.length_map, n6, n7, Ae, hel, Hy, hd, G5, Bx, go_sem];refine Aa (hb.at (by simp [A5, tn])) ?_;simp (disch := omega) only [hel, G5, Gp, Bb, go_sem];have hpv : e.base.pv = .sl e.base.f e.base.z (e.base.l.map Em) := rfl;have hA := Ayl (g := e.base) (r := e.rep) (q := e.seq) (s := E6 o.vers e) he.2.1 hv.sv (by omega) hv.bl hm hv.new (h := fun _ => none) (d := 0);refine Aa (hA.at (by simp [A5, tn, hpv])) ?_;have hsp := Amc o (Fk o.vers e.base.l (Si e.rep e.seq (E6 o.vers e)));have hset : (s.objs.map Av).set (B0 s.objs (Ax e)) (Av { o with vers := Fk o.vers e.base.l (Si e.rep e.seq (E6 o.vers e)) }) = (wrO s e o).map Av := by
  unfold wrO; rw [List.map_set]
 simp (disch := omega) only [hgd, hsp, List.length_map, hset, go_sem];refine Bw ?_;simp (disch := omega) only [go_sem]
def Tx (s : St) (e : Evt) (n : Int) : Prop := ∀ (h : Nat → Option Blk) (d : Nat), h 6 = some (.var (Ec s)) → h 38 = some (.row 15 (s.objs.map Av)) → ∃ r X, DeepOk Tryz.prog 26 [.p 6 0, .vec 21 (Bq e)] h d (.pv (.i .i64 n)) [.new 38 (.row 15 r), .upd 6 (.var X)]
set_option maxHeartbeats 4000000 in
theorem Aet {s : St} {e : Evt} {o : Obj} (hs : StOk s) (he : ev e) (ho : s.objs[B0 s.objs (Ax e)]? = some o) (hid : o.id = Ax e) (hd : o.dir = false) (hv : VerOk o e) (hm : C7 o.vers e.base.l) : Tx s e 2 := by
 intro h d hg h38;have hk := hv.fw.k;have n8 : ¬ e.kind = 8 := by omega
 have n9 : ¬ e.kind = 9 := by omega
 have n1 : ¬ e.kind = 1 := by omega
 have n2 : ¬ e.kind = 2 := by omega
 have n6 : ¬ e.kind = 6 := by omega
 have n7 : ¬ e.kind = 7 := by omega
 have hi := Z2 hs.so ho hid;have hlt := (List.getElem?_eq_some_iff.1 ho).1;have hel : (s.objs.map Av)[B0 s.objs (Ax e)]? = some (Av o) := by rw [List.getElem?_map, ho]; rfl
 have hgd := O6 ho;have a1 := hs.fine.on;have a2 := hs.fine.ov o (List.mem_of_getElem? ho);have hb := Aev he hv.fw hv.sv (by omega) (h := fun _ => none) (d := 0);by_cases hq : e.kind = 5 ∨ (Dp o.vers (Ea e).1 (Ea e).2).2 = 0
 · rw [if_pos hq] at hb;refine ⟨(s.objs.map Av).set (B0 s.objs (Ax e)) (splice (Av o) 14 [.sl true 0 []]), Ec s, Ew Af fn26 (by simp) hg h38 (by decide) rfl (C9 s) fun F => ?_⟩;simp (disch := omega) only [ir26, Ec, A2, Cd, Ae, n8, n9, n1, n2, A9, go_sem];refine Aa (Ju (l := s.objs) (Ax e) rfl rfl hs.so (by omega)) ?_;simp (disch := omega) only [hi, List.length_map, n6, n7, Ae, hel, Hy, hd, G5, Bx, go_sem];refine Aa (hb.at (by simp [A5, tn])) ?_;simp (disch := omega) only [hel, G5, Gp, Bb, go_sem];have hpv : e.base.pv = .sl e.base.f e.base.z (e.base.l.map Em) := rfl;have hA := Ab1 (g := e.base) (r := e.rep) (q := e.seq) (s := E6 o.vers e) he.2.1 hv.sv (by omega) hv.bl hm (h := fun _ => none) (d := 0);refine Aa (hA.at (by simp [A5, tn, hpv])) ?_;simp (disch := omega) only [hgd, List.length_map, go_sem];refine Bw ?_;simp (disch := omega) only [go_sem]
 · rw [if_neg hq] at hb;refine ⟨s.objs.map Av, Ec s, Ew Af fn26 (by simp) hg h38 (by decide) rfl (C9 s) fun F => ?_⟩;simp (disch := omega) only [ir26, Ec, A2, Cd, Ae, n8, n9, n1, n2, A9, go_sem];refine Aa (Ju (l := s.objs) (Ax e) rfl rfl hs.so (by omega)) ?_;simp (disch := omega) only [hi, List.length_map, n6, n7, Ae, hel, Hy, hd, G5, Bx, go_sem];refine Aa (hb.at (by simp [A5, tn])) ?_;simp (disch := omega) only [go_sem];refine Bw ?_;simp (disch := omega) only [go_sem]
theorem Am0 {s : St} {e : Evt} {o : Obj} (hs : StOk s) (hk : e.kind = 3 ∨ e.kind = 4 ∨ e.kind = 5) (ho : s.objs[B0 s.objs (Ax e)]? = some o) (hid : o.id = Ax e) (hd : o.dir = true) : Tx s e 23 := by
 intro h d hg h38;have n8 : ¬ e.kind = 8 := by omega
 have n9 : ¬ e.kind = 9 := by omega
 have n1 : ¬ e.kind = 1 := by omega
 have n2 : ¬ e.kind = 2 := by omega
 have n6 : ¬ e.kind = 6 := by omega
 have n7 : ¬ e.kind = 7 := by omega
 have hi := Z2 hs.so ho hid;have hlt := (List.getElem?_eq_some_iff.1 ho).1;have hel : (s.objs.map Av)[B0 s.objs (Ax e)]? = some (Av o) := by rw [List.getElem?_map, ho]; rfl
 have a1 := hs.fine.on;refine ⟨s.objs.map Av, Ec s, Ew Af fn26 (by simp) hg h38 (by decide) rfl (C9 s) fun F => ?_⟩;simp (disch := omega) only [ir26, Ec, A2, Cd, Ae, n8, n9, n1, n2, A9, go_sem];refine Aa (Ju (l := s.objs) (Ax e) rfl rfl hs.so (by omega)) ?_;simp (disch := omega) only [hi, List.length_map, n6, n7, Ae, hel, Hy, hd, G5, Bx, go_sem];refine Bw ?_;simp (disch := omega) only [go_sem]
theorem Aho {s : St} {e : Evt} (hs : StOk s) (hk : e.kind = 3 ∨ e.kind = 4 ∨ e.kind = 5 ∨ e.kind = 6 ∨ e.kind = 7) (hi : isO s.objs (Ax e) = false) : Tx s e 2 := by
 intro h d hg h38;have n8 : ¬ e.kind = 8 := by omega
 have n9 : ¬ e.kind = 9 := by omega
 have n1 : ¬ e.kind = 1 := by omega
 have n2 : ¬ e.kind = 2 := by omega
 have a1 := hs.fine.on;refine ⟨s.objs.map Av, Ec s, Ew Af fn26 (by simp) hg h38 (by decide) rfl (C9 s) fun F => ?_⟩;simp (disch := omega) only [ir26, Ec, A2, Cd, Ae, n8, n9, n1, n2, A9, go_sem];refine Aa (Ju (l := s.objs) (Ax e) rfl rfl hs.so (by omega)) ?_;simp (disch := omega) only [hi, go_sem];refine Bw ?_;simp (disch := omega) only [go_sem]
theorem Lf {s : St} (i : Bo) {h d} (hs : El s.objs) (hn : s.objs.length ≤ 1000) (h38 : h 38 = some (.row 15 (s.objs.map Av))) :
 FunOk Tryz.prog 51 [.agg [.vec 8 (vE s.known), .os 38, .pv (.fs 15 (s.ents.map Bj)), .vec 8 (iE s.wards), .vec 8 (wE s.ret)], .vec 2 [.i .i64 i.1, .i .u32 i.2]] h d (.pv (.i .i64 (K7 s.objs i))) [] :=
 FunOk.lend (n := 38) (h' := h) (d' := d) h38 (by simp [A5, tn]) (by simp [A5, tn, SV.frz, SV.frzL]) rfl (Amz (s := s) i hs hn)
set_option maxHeartbeats 4000000 in
theorem Ahq {s : St} {e : Evt} (hs : StOk s) (hk : e.kind = 1 ∨ e.kind = 2) (hd : K7 s.objs (Hf e) ≠ 0) : Tx s e (K7 s.objs (Hf e)) := by
 intro h d hg h38;have n8 : ¬ e.kind = 8 := by omega
 have n9 : ¬ e.kind = 9 := by omega
 have a1 := hs.fine.on;refine ⟨s.objs.map Av, Ec s, Ew Af fn26 (by simp) hg h38 (by decide) rfl (C9 s) fun F => ?_⟩;rcases hk with hk | hk
 all_goals
  simp (disch := omega) only [ir26, Ec, A2, Cd, Ae, n8, n9, hk, Dh, go_sem];refine Aa (Lf (s := s) (Hf e) hs.so (by omega) rfl) ?_;simp (disch := omega) only [hd, go_sem];refine Bw ?_;simp (disch := omega) only [go_sem]
set_option maxHeartbeats 4000000 in
theorem A4n {s : St} {e : Evt} (hs : StOk s) (hk : e.kind = 1 ∨ e.kind = 2) (hd : K7 s.objs (Hf e) = 0) {h d}
 (hg : h 6 = some (.var (Ec s))) (h38 : h 38 = some (.row 15 (s.objs.map Av))) :
 DeepOk Tryz.prog 26 [.p 6 0, .vec 21 (Bq e)] h d (.pv (.i .i64 0)) [.new 38 (.row 15 ((s.objs.map Av).take (B0 s.objs (Aj e)) ++ E0 true 0 (W9 e) :: (s.objs.map Av).drop (B0 s.objs (Aj e)))), .upd 6 (.var (Ec (mkS s e)))] := by
 have n8 : ¬ e.kind = 8 := by omega
 have n9 : ¬ e.kind = 9 := by omega
 have a1 := hs.fine.on;have a3 := hs.fine.en;refine Ew Af fn26 (by simp) hg h38 (by decide) rfl (C9 _) fun F => ?_;rcases hk with hk | hk
 · skip
   simp (disch := omega) only [ir26, Ec, A2, Cd, Ae, n8, n9, hk, Dh, go_sem];refine Aa (Lf (s := s) (Hf e) hs.so (by omega) rfl) ?_;simp (disch := omega) only [hd, Bb, go_sem];refine Aa (Ju (l := s.objs) (Aj e) rfl rfl hs.so (by omega)) ?_;have hN : ∀ b, b = decide (e.kind = 2) → (PV.i .i64 e.rep :: .i .u32 e.seq :: .b b :: .i .i64 e.rep :: .i .u32 e.seq :: .s e.name :: ((vE fun _ => 0) ++ [.sl true 0 []])) = E0 true 0 (W9 e) := fun b hb => by subst hb; rfl
   have hN := hN false (by simp [hk]);have hl9 : ((vE fun _ => 0) ++ [PV.sl true 0 []]).length = 9 := by simp [Bh]
   simp (disch := omega) only [Bb, Ae, hk, Dq, hN, hl9, Ed, go_sem];have hp := Md s.objs (Aj e);refine Aa (Ar5 (m := 38) (n := 75) (s.objs.map Av) (E0 true 0 (W9 e)) (B0 s.objs (Aj e)) (by simpa using hp) (by simp; omega) (W7 _) (Ed _ _ _) (by decide) (by decide) (by decide) (by decide) rfl rfl) ?_;simp (disch := omega) only [Bb, Dh, Dq, go_sem];refine Aa (Ab2 (l := s.ents) e (Aj e) hs.se (by omega)) ?_;simp (disch := omega) only [go_sem];refine ⟨_, Ei 76 38 (by decide) rfl (.same _), ?_⟩
   (try simp only [D4, D3, D2, D1, D0, Dx, Dw, Dv]); simp (disch := omega) only [mkS, go_sem]
 · skip
   simp (disch := omega) only [ir26, Ec, A2, Cd, Ae, n8, n9, hk, Dh, go_sem];refine Aa (Lf (s := s) (Hf e) hs.so (by omega) rfl) ?_;simp (disch := omega) only [hd, Bb, go_sem];refine Aa (Ju (l := s.objs) (Aj e) rfl rfl hs.so (by omega)) ?_;have hN : ∀ b, b = decide (e.kind = 2) → (PV.i .i64 e.rep :: .i .u32 e.seq :: .b b :: .i .i64 e.rep :: .i .u32 e.seq :: .s e.name :: ((vE fun _ => 0) ++ [.sl true 0 []])) = E0 true 0 (W9 e) := fun b hb => by subst hb; rfl
   have hN := hN true (by simp [hk]);have hl9 : ((vE fun _ => 0) ++ [PV.sl true 0 []]).length = 9 := by simp [Bh]
   simp (disch := omega) only [Bb, Ae, hk, Dq, hN, hl9, Ed, go_sem];have hp := Md s.objs (Aj e);refine Aa (Ar5 (m := 38) (n := 75) (s.objs.map Av) (E0 true 0 (W9 e)) (B0 s.objs (Aj e)) (by simpa using hp) (by simp; omega) (W7 _) (Ed _ _ _) (by decide) (by decide) (by decide) (by decide) rfl rfl) ?_;simp (disch := omega) only [Bb, Dh, Dq, go_sem];refine Aa (Ab2 (l := s.ents) e (Aj e) hs.se (by omega)) ?_;simp (disch := omega) only [go_sem];refine ⟨_, Ei 76 38 (by decide) rfl (.same _), ?_⟩
   (try simp only [D4, D3, D2, D1, D0, Dx, Dw, Dv]); simp (disch := omega) only [mkS, go_sem]
def I5 (s : St) (e : Evt) : St := { s with wards := E7 s.wards (e.rep - 1).toNat e.ward }
def P0 (s : St) (e : Evt) : St := { s with ret := E7 s.ret (e.rep - 1).toNat true }
theorem Wg (s : St) {k : Nat} (hk : k < 8) (n : Int) (a b : PV) : splice (vE s.known ++ a :: b :: (iE s.wards ++ wE s.ret)) (10 + k) [.i .i64 n] = vE s.known ++ a :: b :: (iE (E7 s.wards k n) ++ wE s.ret) := by
 rw [← Zg hk];simp only [splice, vE, iE, wE, Cj];have hk2 : k = 0 ∨ k = 1 ∨ k = 2 ∨ k = 3 ∨ k = 4 ∨ k = 5 ∨ k = 6 ∨ k = 7 := by omega
 rcases hk2 with rfl | rfl | rfl | rfl | rfl | rfl | rfl | rfl <;> rfl
theorem Abi (s : St) {k : Nat} (hk : k < 8) (n : Bool) (a b : PV) : splice (vE s.known ++ a :: b :: (iE s.wards ++ wE s.ret)) (18 + k) [.b n] = vE s.known ++ a :: b :: (iE s.wards ++ wE (E7 s.ret k n)) := by
 rw [← Zf hk];simp only [splice, vE, iE, wE, Cj];have hk2 : k = 0 ∨ k = 1 ∨ k = 2 ∨ k = 3 ∨ k = 4 ∨ k = 5 ∨ k = 6 ∨ k = 7 := by omega
 rcases hk2 with rfl | rfl | rfl | rfl | rfl | rfl | rfl | rfl <;> rfl
theorem Aa5 (s : St) : Imp (.vec 26 (vE s.known ++ .sl false 15 (s.objs.map A4) :: .sl false 15 (s.ents.map Bj) :: (iE s.wards ++ wE s.ret))) (.agg (Bi s)) :=
 Alc ⟨Bh _, _, rfl, _, rfl, _, rfl, O3 _, _, rfl, Oh _, [], by simp, rfl⟩
theorem Ajz (s : St) : Imp (.vec 26 (vE s.known ++ .fs 15 (s.objs.map Av) :: .fs 15 (s.ents.map Bj) :: (iE s.wards ++ wE s.ret))) (.agg (Ff s)) :=
 Alc ⟨Bh _, _, rfl, _, rfl, _, rfl, O3 _, _, rfl, Oh _, [], by simp, rfl⟩
theorem Ahp {s : St} {e : Evt} (hk : e.kind = 8) (hr : 1 ≤ e.rep ∧ e.rep ≤ 8) {h d} (hg : h 6 = some (.var (.agg (Ff s)))) :
 FunOk Tryz.prog 26 [.p 6 0, .vec 21 (Bq e)] h d (.pv (.i .i64 0)) [.upd 6 (.var (.agg (Ff (I5 s e))))] := by
 refine Vk (g := 6) Af fn26 (by simp) (by simp [A5, tn]) (by simp [A5, tn]) hg rfl (by simp [Blk.ptr, SV.kill]) rfl (fun _ => rfl) fun F => ?_;obtain ⟨k, hk8, hre⟩ : ∃ k : Nat, k < 8 ∧ e.rep - 1 = k := ⟨(e.rep - 1).toNat, by omega, by omega⟩
 have hS : I5 s e = { s with wards := E7 s.wards k e.ward } := by unfold I5; rw [hre]; rfl
 have hsp := Wg s hk8 e.ward (.fs 15 (s.objs.map Av)) (.fs 15 (s.ents.map Bj));rw [hS];simp (disch := omega) only [ir26, Ff, A2, Cd, Blk.ptr, Ae, hk, Db, Vd, hre, hsp, go_sem];refine ⟨mk [(4, .pv (.i .i64 0)), (1000000, .p 6 0)] [(6, some (.var (.agg (Ff { s with wards := E7 s.wards k e.ward }))))], Ak ?_ ?_, ?_⟩
 · simp (disch := omega) only [go_sem]
 · simp (disch := omega) only [go_sem];exact ⟨Ajz { s with wards := E7 s.wards k e.ward }, rfl⟩
 (try simp only [D4, D3, D2, D1, D0, Dx, Dw, Dv]); simp (disch := omega) only [go_sem]
 exact ⟨6, rfl, rfl⟩
theorem Am1 {s : St} {e : Evt} (hk : e.kind = 9) (hr : 1 ≤ e.rep ∧ e.rep ≤ 8) {h d} (hg : h 6 = some (.var (.agg (Ff s)))) :
 FunOk Tryz.prog 26 [.p 6 0, .vec 21 (Bq e)] h d (.pv (.i .i64 0)) [.upd 6 (.var (.agg (Ff (P0 s e))))] := by
 refine Vk (g := 6) Af fn26 (by simp) (by simp [A5, tn]) (by simp [A5, tn]) hg rfl (by simp [Blk.ptr, SV.kill]) rfl (fun _ => rfl) fun F => ?_;obtain ⟨k, hk8, hre⟩ : ∃ k : Nat, k < 8 ∧ e.rep - 1 = k := ⟨(e.rep - 1).toNat, by omega, by omega⟩
 have hS : P0 s e = { s with ret := E7 s.ret k true } := by unfold P0; rw [hre]; rfl
 have hsp := Abi s hk8 true (.fs 15 (s.objs.map Av)) (.fs 15 (s.ents.map Bj));rw [hS];simp (disch := omega) only [ir26, Ff, A2, Cd, Blk.ptr, Ae, hk, Db, hre, hsp, go_sem];refine ⟨mk [(4, .pv (.i .i64 0)), (1000000, .p 6 0)] [(6, some (.var (.agg (Ff { s with ret := E7 s.ret k true }))))], Ak ?_ ?_, ?_⟩
 · simp (disch := omega) only [go_sem]
 · simp (disch := omega) only [go_sem];exact ⟨Ajz { s with ret := E7 s.ret k true }, rfl⟩
 (try simp only [D4, D3, D2, D1, D0, Dx, Dw, Dv]); simp (disch := omega) only [go_sem]
 exact ⟨6, rfl, rfl⟩
def Aib (l : List Bo) (i : Bo) : Int := match l.findIdx? (fun x => decide (i = x)) with
 | some k => k
 | none => -1
def Aj1 (f : Bool) (l : List Bo) (i : Bo) (k : Nat) : FS := mk [(8, .pv (.i .i64 k)), (7, .pv (.i .i64 l.length)), (0, .pv (.sl f 2 (l.map Em))), (3, .p 3 0)] [(3, some (.var (.vec 2 [.i .i64 i.1, .i .u32 i.2])))]
set_option maxHeartbeats 1000000 in
theorem Ar6 {f : Bool} {l : List Bo} (i : Bo) {h d} (hn : l.length ≤ 1000) : FunOk Tryz.prog 94 [.pv (.sl f 2 (l.map Em)), .vec 2 [.i .i64 i.1, .i .u32 i.2]] h d (.pv (.i .i64 (Aib l i))) [] := by
 refine Aw Af fn94 (by simp) rfl rfl fun F => ?_;simp (disch := omega) only [ir94, List.length_map, go_sem];refine A0 Af (Aj1 f l i) (fun k => k ≤ l.length ∧ ∀ j x, j < k → l[j]? = some x → i ≠ x) (fun k => l.length - k) 0 ⟨by simp, fun j x hj => absurd hj (Nat.not_lt_zero j)⟩ (Ak ?_ ?_) fun k hk => ?_
 · simp (disch := omega) only [go_sem]
 · simp (disch := omega) only [go_sem]
 obtain ⟨hk1, hk2⟩ := hk;by_cases hlt : k < l.length
 · have hx : l[k]? = some l[k] := List.getElem?_eq_getElem hlt;have he : (l.map Em)[k]? = some (Em l[k]) := by rw [List.getElem?_map, hx]; rfl
   generalize l[k] = b at *;by_cases hb : i = b
   · have hp := Fq hb;have e : Aib l i = k := by
      have : l.findIdx? (fun x => decide (i = x)) = some k := by
       rw [List.findIdx?_eq_some_iff_getElem];refine ⟨hlt, by rw [List.getElem?_eq_getElem hlt] at hx; cases hx; simpa using hb, fun j hj => ?_⟩;have := hk2 j _ hj (List.getElem?_eq_getElem (by omega));simpa using this
      unfold Aib; rw [this]
     simp (disch := omega) only [Aj1, List.length_map, he, E3, Ag, hp, e, go_sem]
   · have hp := Fs hb;simp (disch := omega) only [Aj1, List.length_map, he, E3, Ag, hp, go_sem];refine Ad (k + 1) _ _ rfl ⟨by omega, fun j x hj hjx => ?_⟩ (by omega) ?_ ?_
     · by_cases ej : j = k
       · subst ej; rw [hx] at hjx; cases hjx; exact hb
       · exact hk2 j x (by omega) hjx
     · simp (disch := omega) only [go_sem]
     · simp (disch := omega) only [go_sem]
 · obtain rfl : k = l.length := by omega
   have e : Aib l i = -1 := by
    have : l.findIdx? (fun x => decide (i = x)) = none := by
     rw [List.findIdx?_eq_none_iff];intro x hx;obtain ⟨j, hj⟩ := List.mem_iff_getElem?.1 hx;have := hk2 j x (List.getElem?_eq_some_iff.1 hj).1 hj;simpa using this
    unfold Aib; rw [this]
   simp (disch := omega) only [Aj1, e, go_sem]
theorem Aty (l : List Bo) (i : Bo) : decide (0 ≤ Aib l i) = decide (i ∈ l) := by
 unfold Aib;cases h : l.findIdx? (fun x => decide (i = x)) with
 | some k =>
   have := List.findIdx?_eq_some_iff_getElem.1 h;obtain ⟨h1, h2, _⟩ := this;have h3 : i = l[k] := by simpa using h2
   have : i ∈ l := by rw [h3]; exact List.getElem_mem h1
   simp only [this, decide_true, decide_eq_true_eq]; omega
 | none =>
   have h2 := List.findIdx?_eq_none_iff.1 h;have : ¬ i ∈ l := fun hm => by have := h2 i hm; simp at this
   simp only [this, decide_false, decide_eq_false_iff_not]; omega
theorem Uf (g : SlI) (i : Bo) (hg : g.ok) {h d} (hn : g.l.length ≤ 1000) : FunOk Tryz.prog 75 [.pv g.pv, .vec 2 [.i .i64 i.1, .i .u32 i.2]] h d (.pv (.b (decide (i ∈ g.l)))) [] := by
 refine FunOk.imp (args' := [.pv (.sl g.f 2 (g.l.map Em)), .vec 2 [.i .i64 i.1, .i .u32 i.2]]) ?_ ⟨U6 g hg, Imp.refl _, trivial⟩ (by simp [A5, tn]);refine Aw Af fn75 (by simp) rfl rfl fun F => ?_;have e := Aty g.l i;simp (disch := omega) only [ir75, go_sem];refine Aa (Ar6 (l := g.l) i hn) ?_;simp (disch := omega) only [e, go_sem]
def Ev (e : Evt) (x : Ent) : Bool := decide (x.obj = Ax e) && decide (x.id ∈ e.gone.l)
def Fj (e : Evt) (l m : List Ent) : List Ent := m.foldl (fun a x => if Ev e x = true then killL a x.id (Aj e) else a) l
theorem Xm (e : Evt) (l m : List Ent) (x : Ent) : Fj e l (m ++ [x]) = if Ev e x = true then killL (Fj e l m) x.id (Aj e) else Fj e l m := by
 simp [Fj, List.foldl_append]
theorem Mm {e : Evt} {l : List Ent} (h : Dk l) : ∀ m : List Ent, Dk (Fj e l m) := fun m => by
 unfold Fj
 induction m generalizing l with
 | nil => exact h
 | cons x m ih =>
   simp only [List.foldl_cons];split
   · exact ih (Ami h _ _)
   · exact ih h
theorem Tk {e : Evt} {l : List Ent} : ∀ m : List Ent, (Fj e l m).length = l.length := fun m => by
 unfold Fj
 induction m generalizing l with
 | nil => rfl
 | cons x m ih =>
   simp only [List.foldl_cons];split
   · rw [ih]; exact Ay9 _ _ _
   · exact ih
theorem Aq6 {α : Type} {l : List α} {i : Nat} {x : α} (h : l[i]? = some x) : l.set i x = l := by
 obtain ⟨h1, h2⟩ := List.getElem?_eq_some_iff.1 h;rw [← h2]; exact List.set_getElem_self h1
def Uk (s : St) (e : Evt) (i : Nat) (o : Obj) : St := { s with objs := s.objs.set i { o with seen := Cw o.seen (Bc e.dep e.rep e.seq) }, ents := Fj e s.ents s.ents }
def Xb (e : Evt) (o : Obj) : Obj := if Ch o.last.1 o.last.2 e.rep e.seq = true then { o with last := Aj e, name := e.name } else o
def Nr (s : St) (e : Evt) (i : Nat) (o : Obj) : St := { s with objs := s.objs.set i (Xb e o), ents := Qr (Fj e s.ents s.ents) (Fv e (Ax e)) }
def T8 (s : St) (e : Evt) (i k : Nat) : FS := mk [(27, .pv (.i .i64 k)), (26, .pv (.i .i64 s.ents.length)), (25, .pv (.sl false 15 (s.ents.map Bj))), (5, .p 5 0), (0, .p 6 0), (1, .pr 38 15 i 0), (1000000, .p 6 0)] [(5, some (.var (.vec 21 (Bq e)))), (6, some (.var (.agg (A2 s (.os 38) (.pv (.fs 15 ((Fj e s.ents (s.ents.take k)).map Bj))))))), (38, some (.row 15 (s.objs.map Av)))]
set_option maxHeartbeats 4000000 in
theorem Aen {s : St} {e : Evt} {o : Obj} {i : Nat} (hs : StOk s) (he : ev e) (hk : e.kind = 6) (ho : s.objs[i]? = some o) {h d}
 (hg : h 6 = some (.var (Ec s))) (h38 : h 38 = some (.row 15 (s.objs.map Av))) :
 DeepOk Tryz.prog 54 [.p 6 0, .pr 38 15 i 0, .vec 21 (Bq e)] h d (.pv (.i .i64 0)) [.new 38 (.row 15 ((Uk s e i o).objs.map Av)), .upd 6 (.var (Ec (Uk s e i o)))] := by
 refine Ew Af fn54 (by simp) hg h38 (by decide) rfl (C9 _) fun F => ?_;have hil := (List.getElem?_eq_some_iff.1 ho).1;have hel : (s.objs.map Av)[i]? = some (Av o) := by rw [List.getElem?_map, ho]; rfl
 have hgd := O6 ho;have a3 := hs.fine.en;simp (disch := omega) only [ir54, Ec, A2, Cd, Ae, hk, List.length_map, go_sem];refine A0 Af (T8 s e i) (fun k => k ≤ s.ents.length) (fun k => s.ents.length - k) 0 (by simp) (Ak ?_ ?_) fun k hk => ?_
 · simp (disch := omega) only [go_sem];exact Gw (Me (.refl _))
 · simp (disch := omega) only [A2, Fj, List.take_zero, List.foldl_nil, go_sem]
 by_cases hlt : k < s.ents.length
 · have hx : s.ents[k]? = some s.ents[k] := List.getElem?_eq_getElem hlt;have hel : (s.ents.map Bj)[k]? = some (Bj s.ents[k]) := by rw [List.getElem?_map, hx]; rfl
   have ht := C4 hx;have hsn := Xm e s.ents (s.ents.take k) s.ents[k];rw [← ht] at hsn;generalize s.ents[k] = x at *;have hel15 := Dn x;have hsoK := Mm (e := e) hs.se (s.ents.take k);have hlK := Tk (e := e) (l := s.ents) (s.ents.take k);by_cases h1 : x.obj = Ax e
   · have hp := Fq h1;have hpv : e.gone.pv = .sl e.gone.f e.gone.z (e.gone.l.map Em) := rfl;simp (disch := omega) only [T8, A2, List.length_map, hel, Fd, hel15, C5, A9, Br, Ag, hp, Gq, Di, go_sem];refine Aa (Uf e.gone x.id he.1 he.2.2.1) ?_;by_cases h2 : x.id ∈ e.gone.l
     · have hg : Ev e x = true := by unfold Ev; simp [h1, h2]
       rw [if_pos hg] at hsn;simp (disch := omega) only [h2, Di, Bb, go_sem];refine Aa (Akp (l := Fj e s.ents (s.ents.take k)) x.id (Aj e) hsoK (by omega)) ?_;simp (disch := omega) only [go_sem];refine ⟨k + 1, by omega, by omega, Ak ?_ ?_⟩
       · simp (disch := omega) only [go_sem]
       · simp (disch := omega) only [A2, hsn, go_sem]
     · have hg : ¬ Ev e x = true := by unfold Ev; simp [h2]
       rw [if_neg hg] at hsn;simp (disch := omega) only [h2, go_sem];refine Ad (k + 1) _ _ rfl (by omega) (by omega) ?_ ?_
       · simp (disch := omega) only [go_sem]
       · simp (disch := omega) only [A2, hsn, go_sem]
   · have hp := Fs h1;have hg : ¬ Ev e x = true := by unfold Ev; simp [h1]
     rw [if_neg hg] at hsn;simp (disch := omega) only [T8, A2, List.length_map, hel, Fd, hel15, C5, A9, Br, Ag, hp, Di, go_sem];refine Ad (k + 1) _ _ rfl (by omega) (by omega) ?_ ?_
     · simp (disch := omega) only [go_sem]
     · simp (disch := omega) only [A2, hsn, go_sem]
 obtain rfl : k = s.ents.length := by omega
 have htk : s.ents.take s.ents.length = s.ents := List.take_length;simp (disch := omega) only [T8, A2, htk, Ae, hk, hel, Afg, Fb, Bb, go_sem];refine Aa (Wz e.dep e.rep e.seq) ?_;simp (disch := omega) only [go_sem];refine Aa (A4j o.seen (Bc e.dep e.rep e.seq)) ?_;have hsp := Amd o (Cw o.seen (Bc e.dep e.rep e.seq));have hset : (s.objs.map Av).set i (Av { o with seen := Cw o.seen (Bc e.dep e.rep e.seq) }) = (Uk s e i o).objs.map Av := by
  unfold Uk; rw [List.map_set]
 have hvl := Bh (Cw o.seen (Bc e.dep e.rep e.seq));simp (disch := omega) only [hgd, hsp, List.length_map, hset, go_sem];refine Bw ?_;simp (disch := omega) only [Uk, go_sem]
set_option maxHeartbeats 4000000 in
theorem Aem {s : St} {e : Evt} {o : Obj} {i : Nat} (hs : StOk s) (he : ev e) (hk : e.kind = 7) (hd : K7 s.objs (Hf e) = 0) (ho : s.objs[i]? = some o) {h d}
 (hg : h 6 = some (.var (Ec s))) (h38 : h 38 = some (.row 15 (s.objs.map Av))) :
 DeepOk Tryz.prog 54 [.p 6 0, .pr 38 15 i 0, .vec 21 (Bq e)] h d (.pv (.i .i64 0)) [.new 38 (.row 15 ((Nr s e i o).objs.map Av)), .upd 6 (.var (Ec (Nr s e i o)))] := by
 refine Ew Af fn54 (by simp) hg h38 (by decide) rfl (C9 _) fun F => ?_;have hil := (List.getElem?_eq_some_iff.1 ho).1;have hel : (s.objs.map Av)[i]? = some (Av o) := by rw [List.getElem?_map, ho]; rfl
 have hgd := O6 ho;have a1 := hs.fine.on;have a3 := hs.fine.en;simp (disch := omega) only [ir54, Ec, A2, Cd, Ae, hk, Dh, go_sem];refine Aa (Lf (s := s) (Hf e) hs.so (by omega) rfl) ?_;simp (disch := omega) only [hd, List.length_map, go_sem];refine A0 Af (T8 s e i) (fun k => k ≤ s.ents.length) (fun k => s.ents.length - k) 0 (by simp) (Ak ?_ ?_) fun k hk => ?_
 · simp (disch := omega) only [go_sem];exact Gw (Me (.refl _))
 · simp (disch := omega) only [A2, Fj, List.take_zero, List.foldl_nil, go_sem]
 by_cases hlt : k < s.ents.length
 · have hx : s.ents[k]? = some s.ents[k] := List.getElem?_eq_getElem hlt;have hel : (s.ents.map Bj)[k]? = some (Bj s.ents[k]) := by rw [List.getElem?_map, hx]; rfl
   have ht := C4 hx;have hsn := Xm e s.ents (s.ents.take k) s.ents[k];rw [← ht] at hsn;generalize s.ents[k] = x at *;have hel15 := Dn x;have hsoK := Mm (e := e) hs.se (s.ents.take k);have hlK := Tk (e := e) (l := s.ents) (s.ents.take k);by_cases h1 : x.obj = Ax e
   · have hp := Fq h1;have hpv : e.gone.pv = .sl e.gone.f e.gone.z (e.gone.l.map Em) := rfl;simp (disch := omega) only [T8, A2, List.length_map, hel, Fd, hel15, C5, A9, Br, Ag, hp, Gq, Di, go_sem];refine Aa (Uf e.gone x.id he.1 he.2.2.1) ?_;by_cases h2 : x.id ∈ e.gone.l
     · have hg : Ev e x = true := by unfold Ev; simp [h1, h2]
       rw [if_pos hg] at hsn;simp (disch := omega) only [h2, Di, Bb, go_sem];refine Aa (Akp (l := Fj e s.ents (s.ents.take k)) x.id (Aj e) hsoK (by omega)) ?_;simp (disch := omega) only [go_sem];refine ⟨k + 1, by omega, by omega, Ak ?_ ?_⟩
       · simp (disch := omega) only [go_sem]
       · simp (disch := omega) only [A2, hsn, go_sem]
     · have hg : ¬ Ev e x = true := by unfold Ev; simp [h2]
       rw [if_neg hg] at hsn;simp (disch := omega) only [h2, go_sem];refine Ad (k + 1) _ _ rfl (by omega) (by omega) ?_ ?_
       · simp (disch := omega) only [go_sem]
       · simp (disch := omega) only [A2, hsn, go_sem]
   · have hp := Fs h1;have hg : ¬ Ev e x = true := by unfold Ev; simp [h1]
     rw [if_neg hg] at hsn;simp (disch := omega) only [T8, A2, List.length_map, hel, Fd, hel15, C5, A9, Br, Ag, hp, Di, go_sem];refine Ad (k + 1) _ _ rfl (by omega) (by omega) ?_ ?_
     · simp (disch := omega) only [go_sem]
     · simp (disch := omega) only [A2, hsn, go_sem]
 obtain rfl : k = s.ents.length := by omega
 have htk : s.ents.take s.ents.length = s.ents := List.take_length;have hsG := Mm (e := e) hs.se s.ents;have hlG := Tk (e := e) (l := s.ents) s.ents;simp (disch := omega) only [T8, A2, htk, Ae, hk, Bb, Dh, Dq, A9, go_sem];refine Aa (Ab2 (l := Fj e s.ents s.ents) e (Ax e) hsG (by omega)) ?_;simp (disch := omega) only [hel, Afh, Bb, go_sem];refine Aa (Nn o.last.1 o.last.2 e.rep e.seq) ?_;by_cases hl : Ch o.last.1 o.last.2 e.rep e.seq = true
 · have hmo : Xb e o = { o with last := Aj e, name := e.name } := if_pos hl;have hsp := Amf o (Aj e);have hsp2 := Ame { o with last := Aj e } e.name;have hset : ((s.objs.map Av).set i (Av { o with last := Aj e })).set i (Av { o with last := Aj e, name := e.name }) = (Nr s e i o).objs.map Av := by
    unfold Nr; rw [List.set_set, List.map_set, hmo]
   have hgd2 : ((s.objs.map Av).set i (Av { o with last := Aj e })).getD i [] = Av { o with last := Aj e } := by
    rw [List.getD_eq_getElem?_getD, List.getElem?_set_self (by simpa using hil)]; rfl
   simp (disch := omega) only [hl, go_sem];refine N9 ?_;simp (disch := omega) only [Bb, Dq, hgd, hsp, List.length_map, List.length_set, hgd2, hsp2, hset, go_sem];refine Bw ?_;simp (disch := omega) only [Nr, go_sem]
 · have hmo : Xb e o = o := if_neg hl;have hl' : Ch o.last.1 o.last.2 e.rep e.seq = false := by simpa using hl
   have hset : s.objs.map Av = (Nr s e i o).objs.map Av := by
    unfold Nr; rw [hmo];show _ = (s.objs.set i o).map Av;rw [Aq6 ho]
   simp (disch := omega) only [hl', go_sem];refine Bw ?_;simp (disch := omega) only [Nr, go_sem];exact congrArg (fun q => some (Blk.row 15 q)) hset
theorem Ael {s : St} {e : Evt} {i : Nat} (hs : StOk s) (hk : e.kind = 7) (hd : K7 s.objs (Hf e) ≠ 0) {h d}
 (hg : h 6 = some (.var (Ec s))) (h38 : h 38 = some (.row 15 (s.objs.map Av))) :
 DeepOk Tryz.prog 54 [.p 6 0, .pr 38 15 i 0, .vec 21 (Bq e)] h d (.pv (.i .i64 (K7 s.objs (Hf e)))) [.new 38 (.row 15 (s.objs.map Av)), .upd 6 (.var (Ec s))] := by
 refine Ew Af fn54 (by simp) hg h38 (by decide) rfl (C9 _) fun F => ?_;have a1 := hs.fine.on;simp (disch := omega) only [ir54, Ec, A2, Cd, Ae, hk, Dh, go_sem];refine Aa (Lf (s := s) (Hf e) hs.so (by omega) rfl) ?_;simp (disch := omega) only [hd, go_sem];refine Bw ?_;simp (disch := omega) only [go_sem]
set_option maxHeartbeats 4000000 in
theorem Am3 {s : St} {e : Evt} {o : Obj} (hs : StOk s) (he : ev e) (hk : e.kind = 6) (ho : s.objs[B0 s.objs (Ax e)]? = some o) (hid : o.id = Ax e) {h d}
 (hg : h 6 = some (.var (Ec s))) (h38 : h 38 = some (.row 15 (s.objs.map Av))) :
 DeepOk Tryz.prog 26 [.p 6 0, .vec 21 (Bq e)] h d (.pv (.i .i64 0)) [.new 38 (.row 15 ((Uk s e (B0 s.objs (Ax e)) o).objs.map Av)), .upd 6 (.var (Ec (Uk s e (B0 s.objs (Ax e)) o)))] := by
 refine Ew Af fn26 (by simp) hg h38 (by decide) rfl (C9 _) fun F => ?_;have n8 : ¬ e.kind = 8 := by omega
 have n9 : ¬ e.kind = 9 := by omega
 have n1 : ¬ e.kind = 1 := by omega
 have n2 : ¬ e.kind = 2 := by omega
 have hi := Z2 hs.so ho hid;have hlt := (List.getElem?_eq_some_iff.1 ho).1;have a1 := hs.fine.on;simp (disch := omega) only [ir26, Ec, A2, Cd, Ae, n8, n9, n1, n2, A9, go_sem];refine Aa (Ju (l := s.objs) (Ax e) rfl rfl hs.so (by omega)) ?_;simp (disch := omega) only [hi, List.length_map, hk, Ae, Bx, go_sem];refine Lu (Aen hs he hk ho rfl rfl) ?_;simp (disch := omega) only [Ec, A2, Cd, go_sem];refine Bw ?_;simp (disch := omega) only [go_sem]
set_option maxHeartbeats 4000000 in
theorem Am2 {s : St} {e : Evt} {o : Obj} (hs : StOk s) (he : ev e) (hk : e.kind = 7) (hd : K7 s.objs (Hf e) = 0) (ho : s.objs[B0 s.objs (Ax e)]? = some o) (hid : o.id = Ax e) {h d}
 (hg : h 6 = some (.var (Ec s))) (h38 : h 38 = some (.row 15 (s.objs.map Av))) :
 DeepOk Tryz.prog 26 [.p 6 0, .vec 21 (Bq e)] h d (.pv (.i .i64 0)) [.new 38 (.row 15 ((Nr s e (B0 s.objs (Ax e)) o).objs.map Av)), .upd 6 (.var (Ec (Nr s e (B0 s.objs (Ax e)) o)))] := by
 refine Ew Af fn26 (by simp) hg h38 (by decide) rfl (C9 _) fun F => ?_;have n8 : ¬ e.kind = 8 := by omega
 have n9 : ¬ e.kind = 9 := by omega
 have n1 : ¬ e.kind = 1 := by omega
 have n2 : ¬ e.kind = 2 := by omega
 have hi := Z2 hs.so ho hid;have hlt := (List.getElem?_eq_some_iff.1 ho).1;have a1 := hs.fine.on;simp (disch := omega) only [ir26, Ec, A2, Cd, Ae, n8, n9, n1, n2, A9, go_sem];refine Aa (Ju (l := s.objs) (Ax e) rfl rfl hs.so (by omega)) ?_;simp (disch := omega) only [hi, List.length_map, hk, Ae, Bx, go_sem];refine Lu (Aem hs he hk hd ho rfl rfl) ?_;simp (disch := omega) only [Ec, A2, Cd, go_sem];refine Bw ?_;simp (disch := omega) only [go_sem]
set_option maxHeartbeats 4000000 in
theorem Yw {s : St} {e : Evt} {o : Obj} (hs : StOk s) (hk : e.kind = 7) (hd : K7 s.objs (Hf e) ≠ 0) (ho : s.objs[B0 s.objs (Ax e)]? = some o) (hid : o.id = Ax e) : Tx s e (K7 s.objs (Hf e)) := by
 intro h d hg h38;refine ⟨s.objs.map Av, Ec s, Ew Af fn26 (by simp) hg h38 (by decide) rfl (C9 s) fun F => ?_⟩;have n8 : ¬ e.kind = 8 := by omega
 have n9 : ¬ e.kind = 9 := by omega
 have n1 : ¬ e.kind = 1 := by omega
 have n2 : ¬ e.kind = 2 := by omega
 have hi := Z2 hs.so ho hid;have hlt := (List.getElem?_eq_some_iff.1 ho).1;have a1 := hs.fine.on;simp (disch := omega) only [ir26, Ec, A2, Cd, Ae, n8, n9, n1, n2, A9, go_sem];refine Aa (Ju (l := s.objs) (Ax e) rfl rfl hs.so (by omega)) ?_;simp (disch := omega) only [hi, List.length_map, hk, Ae, Bx, go_sem];refine Lu (Ael hs hk hd rfl rfl) ?_;simp (disch := omega) only [Ec, A2, Cd, go_sem];refine Bw ?_;simp (disch := omega) only [go_sem]
end Go.Proofs.YthiamojjhdcegaaGreat.Fw
namespace Go.Proofs.YthiamojjhdcegaaGreat.Fw
variable [Th]
open Go.RowKit Go.Proofs
def E9 (l : List Obj) (i : Bo) : Option Obj := match l[B0 l i]? with
 | some o => if o.id = i then some o else none
 | none => none
theorem Gv {l : List Obj} {i : Bo} {o : Obj} (h : E9 l i = some o) : l[B0 l i]? = some o ∧ o.id = i := by
 unfold E9 at h;split at h
 · rename_i u hu;split at h
   · rename_i hi; cases h; exact ⟨hu, hi⟩
   · cases h
 · cases h
theorem Any {l : List Obj} (hs : El l) (i : Bo) : isO l i = (E9 l i).isSome := by
 rw [Rk hs]; unfold E9;cases l[B0 l i]? with
 | none => rfl
 | some x => simp only; by_cases h : x.id = i <;> simp [h]
theorem Ais {l : List Obj} (i : Bo) : K7 l i = if i = (0, 0) then 0 else match E9 l i with | some o => if o.dir = true then 0 else 22 | none => 2 := by
 unfold K7 E9;split
 · rfl
 · cases l[B0 l i]? with
   | none => rfl
   | some x => simp only; by_cases h : x.id = i <;> simp [h]
open Classical in
noncomputable def Qv (s : St) (e : Evt) : Int :=
 if e.kind = 8 ∨ e.kind = 9 then 0
 else if e.kind = 1 ∨ e.kind = 2 then K7 s.objs (Hf e)
 else match E9 s.objs (Ax e) with
  | none => 2
  | some o => if e.kind = 7 then K7 s.objs (Hf e) else if e.kind = 6 then 0 else if o.dir = true then 23 else if C7 o.vers e.base.l then 2 else 0
def doS (s : St) (e : Evt) : St :=
 if e.kind = 8 then I5 s e
 else if e.kind = 9 then P0 s e
 else if e.kind = 1 ∨ e.kind = 2 then mkS s e
 else match E9 s.objs (Ax e) with
  | none => s
  | some o => if e.kind = 7 then Nr s e (B0 s.objs (Ax e)) o else if e.kind = 6 then Uk s e (B0 s.objs (Ax e)) o else { s with objs := wrO s e o }
noncomputable def Gt (s : St) (e : Evt) : Int :=
 if Bm e = false then 7
 else if Bs s.known e.rep e.seq = true then 11
 else if ¬ Yn e.dep s.known then 10
 else if s.ret (e.rep - 1).toNat = true then 28
 else Qv s e
def Gk (s : St) (e : Evt) : St := { s with known := Bc s.known e.rep e.seq }
def I4 (s : St) (e : Evt) : St := doS (Gk s e) e
structure StIn (s : St) : Prop extends StOk s where
 sv : ∀ o ∈ s.objs, Ck o.vers
 sd : ∀ o ∈ s.objs, ∀ v ∈ o.vers, v.data.length ≤ 200
 sk : ∀ o ∈ s.objs, ∀ v ∈ o.vers, Bs s.known v.rep v.seq = true
theorem Cr {e : Evt} (h : Bm e = true) : I6 e := by
 unfold Bm at h;simp only [Bool.and_eq_true, decide_eq_true_eq] at h;exact h.1
theorem X2 {e : Evt} (h : Bm e = true) (hk : e.kind = 3 ∨ e.kind = 4 ∨ e.kind = 5) {l : List Ver} (hd : ∀ v ∈ l, v.data.length ≤ 200) : FitsW l e := by
 unfold Bm at h;simp only [Bool.and_eq_true, decide_eq_true_eq] at h;have hK := h.2.2.2;refine ⟨hk, fun h5 => ?_, fun h3 => ?_, hd⟩
 · have : e.kind = 3 ∨ e.kind = 4 := by omega
   rcases this with h3 | h4
   · rw [Kn h3] at hK;simp only [Bool.and_eq_true, Cq, decide_eq_true_eq] at hK;exact hK.2.2.1
   · rw [O1 h4] at hK;simp only [Bool.and_eq_true, Cq, decide_eq_true_eq] at hK;exact hK.2.2
 · rw [Kn h3] at hK;simp only [Bool.and_eq_true, Cq, decide_eq_true_eq] at hK;exact hK.2.2.2.2.2.2
theorem Ps {e : Evt} (h : Bm e = true) (hk : e.kind = 3 ∨ e.kind = 4 ∨ e.kind = 5) : e.base.l.length ≤ 8 := by
 unfold Bm at h;simp only [Bool.and_eq_true, decide_eq_true_eq] at h;have hK := h.2.2.2;rcases hk with h3 | h3 | h3
 · rw [Kn h3] at hK;simp only [Bool.and_eq_true, Ee, decide_eq_true_eq] at hK;have := hK.2.1.1; omega
 · rw [O1 h3] at hK;simp only [Bool.and_eq_true, Ee, decide_eq_true_eq] at hK;have := hK.2.1.1; omega
 · rw [O0 h3] at hK;simp only [Bool.and_eq_true, Ee, decide_eq_true_eq] at hK;have := hK.2.1.1; omega
structure DoIn (s : St) (e : Evt) : Prop where
 ok : StOk s
 ev : ev e
 ck : Bm e = true
 vo : e.kind = 3 ∨ e.kind = 4 ∨ e.kind = 5 → ∀ o ∈ s.objs, VerOk o e
theorem Aui {s : St} (hs : StIn s) {e : Evt} (h : Bs s.known e.rep e.seq = false) {o : Obj} (ho : o ∈ s.objs) : Bt o.vers e.rep e.seq = none := by
 rw [Qd];intro v hv ⟨h1, h2⟩;have := hs.sk o ho v hv;rw [h1, h2, h] at this; cases this
theorem Ans {s : St} (hs : StIn s) {e : Evt} (he : ev e) (hc : Bm e = true) (h : Bs s.known e.rep e.seq = false) : DoIn (Gk s e) e :=
 ⟨⟨⟨hs.fine.on, hs.fine.ov, hs.fine.en⟩, hs.so, hs.se⟩, he, hc, fun hk o ho => ⟨hs.sv o ho, X2 hc hk (hs.sd o ho), Aui hs h ho, Nat.le_trans (Ps hc hk) (by omega)⟩⟩
theorem Ak2 (a b : PV) (w : Nat → Int) (r : Nat → Bool) {j : Nat} (hj : j < 8) (K : KK) : LoadK (some (a :: b :: (iE w ++ wE r))) (18 + j - 8) 1 false K = K (.pv (.b (r j))) [] := by
 have e : 18 + j - 8 = 10 + j := by omega
 rw [e];simp only [LoadK, Hm, eq_iff_iff];have e2 : (a :: b :: (iE w ++ wE r)).getD (10 + j) (.b false) = .b (r j) := by
  have hk2 : j = 0 ∨ j = 1 ∨ j = 2 ∨ j = 3 ∨ j = 4 ∨ j = 5 ∨ j = 6 ∨ j = 7 := by omega
  simp only [iE, wE, Cj];rcases hk2 with rfl | rfl | rfl | rfl | rfl | rfl | rfl | rfl <;> rfl
 rw [e2];exact ⟨fun h => h.2.2, fun h => ⟨by simp [O3, Oh]; omega, .inr trivial, h⟩⟩
theorem A6i {s : St} {e : Evt} (hi : DoIn s e) (hw : Qv s e ≠ 0) : Tx s e (Qv s e) := by
 have hb := Cr hi.ck;obtain ⟨b1, b2, b3, b4, b5, b6, b7⟩ := hb;unfold Qv at hw ⊢;rcases Classical.em (e.kind = 8 ∨ e.kind = 9) with h89 | h89
 · rw [if_pos h89] at hw; exact absurd rfl hw
 rw [if_neg h89] at hw ⊢;rcases Classical.em (e.kind = 1 ∨ e.kind = 2) with h12 | h12
 · rw [if_pos h12] at hw ⊢;exact Ahq hi.ok h12 hw
 rw [if_neg h12] at hw ⊢;have hk : e.kind = 3 ∨ e.kind = 4 ∨ e.kind = 5 ∨ e.kind = 6 ∨ e.kind = 7 := by omega
 cases ho : E9 s.objs (Ax e) with
 | none =>
   have : isO s.objs (Ax e) = false := by rw [Any hi.ok.so, ho]; rfl
   exact Aho hi.ok hk this
 | some o =>
   rw [ho] at hw;simp only at hw ⊢;obtain ⟨g1, g2⟩ := Gv ho;rcases Classical.em (e.kind = 7) with h7 | h7
   · rw [if_pos h7] at hw ⊢;exact Yw hi.ok h7 hw g1 g2
   rw [if_neg h7] at hw ⊢;rcases Classical.em (e.kind = 6) with h6 | h6
   · rw [if_pos h6] at hw; exact absurd rfl hw
   rw [if_neg h6] at hw ⊢;have hk : e.kind = 3 ∨ e.kind = 4 ∨ e.kind = 5 := by omega
   rcases Classical.em (o.dir = true) with hd | hd
   · rw [if_pos hd]; exact Am0 hi.ok hk g1 g2 hd
   rw [if_neg hd] at hw ⊢;rcases Classical.em (C7 o.vers e.base.l) with hm | hm
   · rw [if_pos hm]; exact Aet hi.ok hi.ev g1 g2 (by simpa using hd) (hi.vo hk o (List.mem_of_getElem? g1)) hm
   · rw [if_neg hm] at hw; exact absurd rfl hw
theorem Bbj {s : St} {e : Evt} (hi : DoIn s e) (hw : Qv s e = 0) (hk : ¬ (e.kind = 8 ∨ e.kind = 9)) : ∃ r, PImpR r ((doS s e).objs.map Av) ∧
 ∀ {h : Nat → Option Blk} {d : Nat}, h 6 = some (.var (Ec s)) → h 38 = some (.row 15 (s.objs.map Av)) → DeepOk Tryz.prog 26 [.p 6 0, .vec 21 (Bq e)] h d (.pv (.i .i64 0)) [.new 38 (.row 15 r), .upd 6 (.var (Ec (doS s e)))] := by
 have hb := Cr hi.ck;obtain ⟨b1, b2, b3, b4, b5, b6, b7⟩ := hb;have n8 : ¬ e.kind = 8 := fun h => hk (.inl h);have n9 : ¬ e.kind = 9 := fun h => hk (.inr h);unfold Qv at hw;unfold doS;rw [if_neg hk] at hw;rw [if_neg n8, if_neg n9];by_cases h12 : e.kind = 1 ∨ e.kind = 2
 · rw [if_pos h12] at hw ⊢;refine ⟨_, ?_, fun hg h38 => A4n hi.ok h12 hw hg h38⟩;simp only [mkS, List.map_append, List.map_take, List.map_drop, List.map_cons];exact PImpR.app (.refl _) ⟨Asf (W9 e) rfl, .refl _⟩
 rw [if_neg h12] at hw ⊢;have hk' : e.kind = 3 ∨ e.kind = 4 ∨ e.kind = 5 ∨ e.kind = 6 ∨ e.kind = 7 := by omega
 cases ho : E9 s.objs (Ax e) with
 | none => rw [ho] at hw; cases hw
 | some o =>
   rw [ho] at hw;simp only at hw ⊢;obtain ⟨g1, g2⟩ := Gv ho;by_cases h7 : e.kind = 7
   · rw [if_pos h7] at hw ⊢;exact ⟨_, .refl _, fun hg h38 => Am2 hi.ok hi.ev h7 hw g1 g2 hg h38⟩
   rw [if_neg h7] at hw ⊢;by_cases h6 : e.kind = 6
   · rw [if_pos h6];exact ⟨_, .refl _, fun hg h38 => Am3 hi.ok hi.ev h6 g1 g2 hg h38⟩
   rw [if_neg h6] at hw ⊢;have hk : e.kind = 3 ∨ e.kind = 4 ∨ e.kind = 5 := by omega
   by_cases hd : o.dir = true
   · rw [if_pos hd] at hw; cases hw
   rw [if_neg hd] at hw;by_cases hm : C7 o.vers e.base.l
   · rw [if_pos hm] at hw; cases hw
   · exact ⟨_, .refl _, fun hg h38 => A4m hi.ok hi.ev g1 g2 (by simpa using hd) (hi.vo hk o (List.mem_of_getElem? g1)) hm hg h38⟩
theorem Uz {x y z : SV} (h : Imp x y) : Imp (.tup [x, z]) (.tup [y, z]) := Azo ⟨h, Imp.refl _, trivial⟩
noncomputable def Yt (s : St) (e : Evt) : St := if Gt s e = 0 then I4 s e else st0
theorem Nh {s : St} {e : Evt} {n : Int} (h : Gt s e = n) (hn : n ≠ 0) : Imp (.tup [.agg [.vec 8 (vE fun _ => 0), .pv (.sl true 0 []), .pv (.sl true 0 []), .vec 8 (iE fun _ => 0), .vec 8 (wE fun _ => false)], .pv (.i .i64 n)]) (.tup [.agg (Ff (Yt s e)), .pv (.i .i64 (Gt s e))]) := by
 have e1 : Yt s e = st0 := if_neg (by rw [h]; exact hn);rw [e1, h];exact Uz Amo
set_option maxHeartbeats 8000000 in
theorem Ase {s : St} {e : Evt} (hs : StIn s) (he : ev e) {h d} : FunOk Tryz.prog 9 [.agg (Bi s), .vec 21 (Bq e)] h d (.tup [.agg (Ff (Yt s e)), .pv (.i .i64 (Gt s e))]) [] := by
 refine Aoj Af fn9 (by simp) rfl rfl fun F => ?_;simp (disch := omega) only [ir9, Bi, A2, Bx, go_sem];refine Aa (Ayi e he) ?_;by_cases hc' : Bm e = false
 · have hw : Gt s e = 7 := if_pos hc';simp (disch := omega) only [hc', go_sem];refine Bw ?_;simp (disch := omega) only [go_sem];exact .inl (Nh hw (by decide))
 have hc : Bm e = true := by simpa using hc'
 have hb := Cr hc;obtain ⟨b1, b2, _⟩ := hb;simp (disch := omega) only [hc, Bb, Fb, go_sem];refine Aa (Js _ _ _) ?_;by_cases h1 : Bs s.known e.rep e.seq = true
 · have hw : Gt s e = 11 := by unfold Gt; rw [if_neg hc', if_pos h1]
   simp (disch := omega) only [h1, go_sem];refine Bw ?_;simp (disch := omega) only [go_sem];exact .inl (Nh hw (by decide))
 have h1' : Bs s.known e.rep e.seq = false := by simpa using h1
 simp (disch := omega) only [h1', Fb, go_sem];refine Aa (A87 _ _) ?_;by_cases h2 : Yn e.dep s.known;rotate_left
 · have hw : Gt s e = 10 := by unfold Gt; rw [if_neg hc', if_neg h1, if_pos h2]
   have h2' := decide_eq_false h2;simp (disch := omega) only [h2', go_sem];refine Bw ?_;simp (disch := omega) only [go_sem];exact .inl (Nh hw (by decide))
 have h2' := decide_eq_true h2;obtain ⟨k, hk8, hre⟩ : ∃ k : Nat, k < 8 ∧ e.rep - 1 = k := ⟨(e.rep - 1).toNat, by omega, by omega⟩
 have hld := fun (a b : PV) (w : Nat → Int) (r : Nat → Bool) (K : KK) => Ak2 a b w r hk8 K;simp (disch := omega) only [h2', Db, hre, hld, go_sem];by_cases h3 : s.ret k = true
 · have hw : Gt s e = 28 := by unfold Gt; rw [if_neg hc', if_neg h1, if_neg (by simpa using h2), if_pos (by rw [hre]; exact h3)]
   simp (disch := omega) only [h3, go_sem];refine Bw ?_;simp (disch := omega) only [go_sem];exact .inl (Nh hw (by decide))
 have h3' : s.ret k = false := by simpa using h3
 have hw : Gt s e = Qv (Gk s e) e := by unfold Gt; rw [if_neg hc', if_neg h1, if_neg (by simpa using h2), if_neg (by rw [hre]; exact h3)]; rfl
 simp (disch := omega) only [h3', go_sem];have hdi := Ans hs he hc h1';have hvl := Bh (Bc s.known e.rep e.seq);by_cases h89 : e.kind = 8 ∨ e.kind = 9
 · have hz : Qv (Gk s e) e = 0 := by unfold Qv; rw [if_pos h89]
   have hR : Yt s e = doS (Gk s e) e := if_pos (hw.trans hz);rw [hR, hw, hz];refine Aa (Zr (s := s) hs.fine) ?_;simp (disch := omega) only [Ff, A2, Cd, Bb, go_sem];refine Aa (Wz s.known e.rep e.seq) ?_;simp (disch := omega) only [Bx, hvl, go_sem];by_cases h8 : e.kind = 8
   · have hS : doS (Gk s e) e = I5 (Gk s e) e := if_pos h8;rw [hS];refine Aa (Ahp (s := Gk s e) h8 ⟨b1, b2⟩ rfl) ?_;simp (disch := omega) only [Ff, A2, Cd, go_sem];refine Bw ?_;simp (maxSteps := 10000000) (disch := omega) only [go_sem]
   · have h9 : e.kind = 9 := h89.resolve_left h8;have hS : doS (Gk s e) e = P0 (Gk s e) e := by unfold doS; rw [if_neg h8, if_pos h9]
     rw [hS];refine Aa (Am1 (s := Gk s e) h9 ⟨b1, b2⟩ rfl) ?_;simp (disch := omega) only [Ff, A2, Cd, go_sem];refine Bw ?_;simp (maxSteps := 10000000) (disch := omega) only [go_sem]
 refine Aa (Am7 (s := s) hs.fine) ?_;simp (disch := omega) only [A2, Cd, Bb, go_sem];refine Aa (Wz s.known e.rep e.seq) ?_;simp (disch := omega) only [Bx, hvl, go_sem];by_cases hz : Qv (Gk s e) e = 0;rotate_left
 · generalize hH : FS.h _ = H;have g6 : H 6 = some (.var (Ec (Gk s e))) := by rw [← hH]; rfl
   have g38 : H 38 = some (.row 15 ((Gk s e).objs.map Av)) := by rw [← hH]; rfl
   obtain ⟨r, X, hdo⟩ := A6i hdi hz H 46 g6 g38;refine Lu hdo ?_;simp (disch := omega) only [hz, go_sem];refine Bw ?_;simp (maxSteps := 10000000) (disch := omega) only [go_sem];exact .inl (Nh hw hz)
 have hR : Yt s e = doS (Gk s e) e := if_pos (hw.trans hz);rw [hR, hw, hz];obtain ⟨r, hr, hdo⟩ := Bbj hdi hz h89;refine Lu (hdo rfl rfl) ?_;generalize doS (Gk s e) e = S at *;simp (disch := omega) only [Ec, A2, Cd, go_sem];refine Bw ?_;simp (maxSteps := 10000000) (disch := omega) only [go_sem];refine .inr ⟨38, 15, _, rfl, ?_⟩;rw [if_pos rfl];exact Uz (Arb hr)
end Go.Proofs.YthiamojjhdcegaaGreat.Fw
namespace Go.Proofs.YthiamojjhdcegaaGreat.Fw
variable [Th]
open Go.RowKit Go.Proofs
theorem Arz (r : Int) (q : Nat) {h d} : FunOk Tryz.prog 68 [.vec 2 [.i .i64 r, .i .u32 q]] h d (.pv (.b (Cc r q))) [] := by
 refine Aw Af fn68 (by simp) rfl rfl fun F => ?_;by_cases h1 : r = 0
 · by_cases h2 : q = 0
   · have e : Cc r q = true := decide_eq_true ⟨h1, h2⟩;have h2' : (q : Int) = 0 := by omega
     simp (disch := omega) only [ir68, Tc, Tb, h1, h2', e, go_sem];simp [Cc, h2]
   · have e : Cc r q = false := decide_eq_false fun h => h2 h.2;have h2' : ¬ (q : Int) = 0 := by omega
     simp (disch := omega) only [ir68, Tc, Tb, h1, h2', e, go_sem];simp [Cc, h2]
 · have e : Cc r q = false := decide_eq_false fun h => h1 h.1;simp (disch := omega) only [ir68, Tc, Tb, h1, e, go_sem]
def Abd (f : Bool) (l : List Bo) (i : Bo) (k : Nat) : FS := mk [(5, .pv (.i .i64 k)), (0, .pv (.sl f 2 (l.map Em))), (3, .p 3 0)] [(3, some (.var (.vec 2 [.i .i64 i.1, .i .u32 i.2])))]
set_option maxHeartbeats 1000000 in
theorem P4 (g : SlI) (i : Bo) (hg : g.ok) {h d} (hn : g.l.length ≤ 1000) : FunOk Tryz.prog 34 [.pv g.pv, .vec 2 [.i .i64 i.1, .i .u32 i.2]] h d (.pv (.b (decide (i ∈ g.l)))) [] := by
 refine FunOk.imp (args' := [.pv (.sl g.f 2 (g.l.map Em)), .vec 2 [.i .i64 i.1, .i .u32 i.2]]) ?_ ⟨U6 g hg, Imp.refl _, trivial⟩ (by simp [A5, tn]);refine Aw Af fn34 (by simp) rfl rfl fun F => ?_;generalize g.f = f;generalize g.l = l at *;simp (disch := omega) only [ir34, List.length_map, go_sem];refine A0 Af (Abd f l i) (fun k => k ≤ l.length ∧ ∀ j x, j < k → l[j]? = some x → i ≠ x) (fun k => l.length - k) 0 ⟨by simp, fun j x hj => absurd hj (Nat.not_lt_zero j)⟩ (Ak ?_ ?_) fun k hk => ?_
 · simp (disch := omega) only [go_sem]
 · simp (disch := omega) only [go_sem]
 obtain ⟨hk1, hk2⟩ := hk;by_cases hlt : k < l.length
 · have hx : l[k]? = some l[k] := List.getElem?_eq_getElem hlt;have he : (l.map Em)[k]? = some (Em l[k]) := by rw [List.getElem?_map, hx]; rfl
   have hm := List.getElem_mem hlt;generalize l[k] = b at *;by_cases hb : b = i
   · have hp := Fq hb;have e : decide (i ∈ l) = true := decide_eq_true (hb ▸ hm);simp (disch := omega) only [Abd, List.length_map, he, E3, Ag, hp, e, go_sem]
   · have hp := Fs hb;simp (disch := omega) only [Abd, List.length_map, he, E3, Ag, hp, go_sem];refine Ad (k + 1) _ _ rfl ⟨by omega, fun j x hj hjx => ?_⟩ (by omega) ?_ ?_
     · by_cases ej : j = k
       · subst ej; rw [hx] at hjx; cases hjx; exact fun q => hb q.symm
       · exact hk2 j x (by omega) hjx
     · simp (disch := omega) only [go_sem]
     · simp (disch := omega) only [go_sem]
 · obtain rfl : k = l.length := by omega
   have e : decide (i ∈ l) = false := decide_eq_false fun hm => by
    obtain ⟨j, hj⟩ := List.mem_iff_getElem?.1 hm;exact hk2 j i (List.getElem?_eq_some_iff.1 hj).1 hj rfl
   simp (disch := omega) only [Abd, List.length_map, e, go_sem]
theorem Aqd (v : Vc) (r : Int) (q : Nat) : vE (Cw v (Q8 r q)) = vE (Bc v r q) := Lz fun i hi => (Adj v r q i hi).symm
theorem E8 (v : Vc) (r : Int) (q : Nat) {h d} : FunOk Tryz.prog 18 [.vec 8 (vE v), .vec 2 [.i .i64 r, .i .u32 q]] h d (.vec 8 (vE (Bc v r q))) [] := by
 rw [← Aqd]; exact U8 v r q
def Dl (l : List Evt) : Vc := l.foldl (fun v e => Bc v e.rep e.seq) (fun _ => 0)
theorem Km (l : List Evt) (e : Evt) : Dl (l ++ [e]) = Bc (Dl l) e.rep e.seq := by simp [Dl]
def Abc (f : Bool) (l : List Evt) (k : Nat) : FS := mk [(4, .pv (.i .i64 k)), (0, .pv (.sl f 21 (l.map Bq))), (3, .p 3 0), (2, .p 2 0)] [(3, some (.var (.vec 8 (vE (Dl (l.take k)))))), (2, some (.var (.vec 8 (vE fun _ => 0))))]
set_option maxHeartbeats 1000000 in
theorem Ako {x : SV} {f : Bool} {l : List Evt} {h d} (hx : Cl h [x] = [.pv (.sl f 21 (l.map Bq))]) (hl : Bf [x] = true) (hn : l.length ≤ 1000) : FunOk Tryz.prog 13 [x] h d (.vec 8 (vE (Dl l))) [] := by
 refine Cg Af fn13 (by simp) hl (Ajs _) fun F => ?_;rw [hx];simp (disch := omega) only [ir13, go_sem];refine A0 Af (Abc f l) (fun k => k ≤ l.length) (fun k => l.length - k) 0 (by simp) (Ak ?_ ?_) fun k hk => ?_
 · simp (disch := omega) only [go_sem]
 · simp (disch := omega) only [Dl, List.take_zero, List.foldl_nil, go_sem]
 by_cases hlt : k < l.length
 · have hx : l[k]? = some l[k] := List.getElem?_eq_getElem hlt;have he : (l.map Bq)[k]? = some (Bq l[k]) := by rw [List.getElem?_map, hx]; rfl
   have ht := C4 hx;generalize l[k] = e at *;have hs : Dl (l.take (k + 1)) = Bc (Dl (l.take k)) e.rep e.seq := by rw [ht, Km]
   simp (disch := omega) only [Abc, List.length_map, he, Bb, go_sem];refine Aa (E8 _ _ _) ?_;simp (disch := omega) only [go_sem];refine Ad (k + 1) _ _ rfl (by omega) (by omega) ?_ ?_
   · simp (disch := omega) only [go_sem]
   · simp (disch := omega) only [hs, go_sem]
 · obtain rfl : k = l.length := by omega
   have htk : l.take l.length = l := List.take_length;simp (disch := omega) only [Abc, List.length_map, htk, go_sem]
def Ip (l : List Evt) (i : Bo) : Option Evt := l.find? fun e => decide (Aj e = i)
def Abf (f : Bool) (l : List Evt) (i : Bo) (z : SV) (k : Nat) : FS := mk [(6, .pv (.i .i64 k)), (0, .pv (.sl f 21 (l.map Bq))), (3, .p 3 0), (4, .p 4 0)] [(3, some (.var (.vec 2 [.i .i64 i.1, .i .u32 i.2]))), (4, some (.var z))]
theorem Az5 {l : List Evt} {i : Bo} {k : Nat} {e : Evt} (h : ∀ j x, j < k → l[j]? = some x → Aj x ≠ i) (hx : l[k]? = some e) (he : Aj e = i) : Ip l i = some e := by
 obtain ⟨hlt, hg⟩ := List.getElem?_eq_some_iff.1 hx;unfold Ip;rw [List.find?_eq_some_iff_getElem];refine ⟨by simpa using he, k, hlt, hg, fun j hj => ?_⟩;simpa using h j _ hj (List.getElem?_eq_getElem (by omega))
theorem Aon {l : List Evt} {i : Bo} (h : ∀ j x, j < l.length → l[j]? = some x → Aj x ≠ i) : Ip l i = none := by
 unfold Ip;rw [List.find?_eq_none];intro x hx;obtain ⟨j, hj⟩ := List.mem_iff_getElem?.1 hx;simpa using h j x (List.getElem?_eq_some_iff.1 hj).1 hj
set_option maxHeartbeats 1000000 in
theorem Ar7 {f : Bool} {l : List Evt} (i : Bo) {h d} (hn : l.length ≤ 1000) : FunOk Tryz.prog 83 [.pv (.sl f 21 (l.map Bq)), .vec 2 [.i .i64 i.1, .i .u32 i.2]] h d (match Ip l i with | some e => .tup [.vec 21 (Bq e), .pv (.b true)] | none => .tup [.vec 21 (Bq ⟨0, 0, fun _ => 0, 0, 0, 0, 0, 0, [], .nil, .nil, 0, [], 0⟩), .pv (.b false)]) [] := by
 refine Aab Af fn83 (by simp) rfl (by split <;> rfl) fun F => ?_;simp (disch := omega) only [ir83, List.length_map, go_sem];refine A0 Af (Abf f l i (.agg [.pv (.i .i64 0), .pv (.i .u32 0), .vec 8 (vE fun _ => 0), .pv (.i .i64 0), .pv (.i .i64 0), .pv (.i .u32 0), .pv (.i .i64 0), .pv (.i .u32 0), .pv (.s []), .pv (.sl true 0 []), .pv (.sl true 0 []), .pv (.i .i64 0), .pv (.s []), .pv (.i .i64 0)])) (fun k => k ≤ l.length ∧ ∀ j x, j < k → l[j]? = some x → Aj x ≠ i) (fun k => l.length - k) 0 ⟨by simp, fun j x hj => absurd hj (Nat.not_lt_zero j)⟩ (Ak ?_ ?_) fun k hk => ?_
 · simp (disch := omega) only [go_sem]
 · simp (disch := omega) only [go_sem]
 obtain ⟨hk1, hk2⟩ := hk;by_cases hlt : k < l.length
 · have hx : l[k]? = some l[k] := List.getElem?_eq_getElem hlt;have he : (l.map Bq)[k]? = some (Bq l[k]) := by rw [List.getElem?_map, hx]; rfl
   generalize l[k] = e at *;by_cases hb : Aj e = i
   · have hp := Fq hb;have hf := Az5 hk2 hx hb;rw [hf]
     (try simp only [D4, D3, D2, D1, D0, Dx, Dw, Dv]); simp (disch := omega) only [Abf, List.length_map, he, Bb, Ag, hp, Bx, go_sem]
     refine Bw ?_;simp (disch := omega) only [go_sem]
   · have hp := Fs hb;simp (disch := omega) only [Abf, List.length_map, he, Bb, Ag, hp, go_sem];refine Ad (k + 1) _ _ rfl ⟨by omega, fun j x hj hjx => ?_⟩ (by omega) ?_ ?_
     · by_cases ej : j = k
       · subst ej; rw [hx] at hjx; cases hjx; exact hb
       · exact hk2 j x (by omega) hjx
     · simp (disch := omega) only [go_sem]
     · simp (disch := omega) only [go_sem]
 · obtain rfl : k = l.length := by omega
   rw [Aon hk2]
   (try simp only [D4, D3, D2, D1, D0, Dx, Dw, Dv]); simp (disch := omega) only [Abf, List.length_map, go_sem]
   refine Bw ?_;simp (disch := omega) only [go_sem];exact Uz (Hd rfl (by simp [Ac]))
theorem Le (e : Evt) {h d} : FunOk Tryz.prog 60 [.vec 21 (Bq e)] h d (.pv (.b (decide (e.kind = 3 ∨ e.kind = 4 ∨ e.kind = 5)))) [] := by
 refine Aw Af fn60 (by simp) rfl rfl fun F => ?_;by_cases h3 : e.kind = 3
 · simp (disch := omega) only [ir60, Ae, h3, go_sem]
 by_cases h4 : e.kind = 4
 · simp (disch := omega) only [ir60, Ae, h4, go_sem]
 by_cases h5 : e.kind = 5
 · simp (disch := omega) only [ir60, Ae, h5, go_sem]
 · simp (disch := omega) only [ir60, Ae, h3, h4, h5, go_sem]
def Y1 (s : List UInt8) (n : Int) : List UInt8 := if n < 0 ∨ 200 < n then [] else Pk s n.toNat
open Classical in
noncomputable def Kz (s : List UInt8) (n : Int) (t : List UInt8) : List UInt8 := if D7 s n t then [] else Iz s n.toNat t
noncomputable def Gh (e : Evt) (was : List UInt8) : List UInt8 := if e.kind = 5 then e.data else if e.kind = 4 then Y1 was e.off else Kz was e.off e.data
noncomputable def Dc (l : List Evt) : Nat → Bo → List UInt8
 | 0, _ => []
 | n + 1, i => match Ip l i with
   | none => []
   | some e => Gh e (match e.base.l with | [] => [] | b :: _ => Dc l n b)
theorem Af4 (s : List UInt8) (n : Nat) : (Pk s n).length = n := by
 unfold Pk; split
 · simp; omega
 · simp [Sc]; omega
theorem Wy (s t : List UInt8) (n : Nat) : (Iz s n t).length = max s.length (n + t.length) := by
 unfold Iz; simp [Sc]; omega
theorem Al8 {e : Evt} (he : e.data.length ≤ 1000) (was : List UInt8) : (Gh e was).length ≤ 1000 := by
 unfold Gh;split
 · exact he
 · split
   · unfold Y1; split
     · simp
     · rw [Af4]; omega
   · unfold Kz; split
     · simp
     · rename_i h;unfold D7 at h;rw [Wy]; omega
theorem Ai0 {l : List Evt} (h : ∀ e ∈ l, e.data.length ≤ 1000) (n : Nat) (i : Bo) : (Dc l n i).length ≤ 1000 := by
 cases n with
 | zero => simp [Dc]
 | succ n =>
   simp only [Dc];split
   · simp
   · rename_i e he;exact Al8 (h e (List.mem_of_find?_eq_some he)) _
def Grd (l : List Evt) (rk : Evt → Nat) : Prop := ∀ e ∈ l, e.kind ≠ 5 → ∀ b t, e.base.l = b :: t → ∀ e', Ip l b = some e' → rk e' < rk e
theorem Ab0 {l : List Evt} {i : Bo} (hn : l.length ≤ 1000) (hf : Ip l i = none) {x : SV} {f : Bool} {h d} (hx : Cl h [x, .vec 2 [.i .i64 i.1, .i .u32 i.2]] = [.pv (.sl f 21 (l.map Bq)), .vec 2 [.i .i64 i.1, .i .u32 i.2]]) (hl : Bf [x, .vec 2 [.i .i64 i.1, .i .u32 i.2]] = true) :
 FunOk Tryz.prog 61 [x, .vec 2 [.i .i64 i.1, .i .u32 i.2]] h d (.pv (.s [])) [] := by
 refine Cg Af fn61 (by simp) hl rfl fun F => ?_;rw [hx];simp (disch := omega) only [ir61, go_sem];refine Aa (Ar7 (l := l) i hn) ?_;rw [hf]
 (try simp only [D4, D3, D2, D1, D0, Dx, Dw, Dv]); simp (disch := omega) only [Ac, go_sem]
set_option maxHeartbeats 4000000 in
theorem Aeu {l : List Evt} {rk : Evt → Nat} (hg : Grd l rk) (hn : l.length ≤ 1000) (hev : ∀ e ∈ l, ev e ∧ e.data.length ≤ 1000) : ∀ (n : Nat) (i : Bo), (∀ e, Ip l i = some e → rk e < n) → ∀ (x : SV) (f : Bool) (h : Nat → Option Blk) (d : Nat), Cl h [x, .vec 2 [.i .i64 i.1, .i .u32 i.2]] = [.pv (.sl f 21 (l.map Bq)), .vec 2 [.i .i64 i.1, .i .u32 i.2]] → Bf [x, .vec 2 [.i .i64 i.1, .i .u32 i.2]] = true →
 FunOk Tryz.prog 61 [x, .vec 2 [.i .i64 i.1, .i .u32 i.2]] h d (.pv (.s (Dc l n i))) []
 | 0, i, hr => by
   intro x f h d hx hl;have hf : Ip l i = none := by
    cases hq : Ip l i with
    | none => rfl
    | some e => exact absurd (hr e hq) (Nat.not_lt_zero _)
   exact Ab0 hn hf hx hl
 | n + 1, i, hr => by
   intro x f h d hx hl;refine Cg Af fn61 (by simp) hl rfl fun F => ?_;rw [hx];simp (disch := omega) only [ir61, go_sem];refine Aa (Ar7 (l := l) i hn) ?_;cases hf : Ip l i with
   | none =>
     have eB : Dc l (n + 1) i = [] := by simp only [Dc, hf]
     (try simp only [D4, D3, D2, D1, D0, Dx, Dw, Dv]); simp (disch := omega) only [eB, Ac, go_sem]
   | some e =>
     have hm := List.mem_of_find?_eq_some hf;obtain ⟨he, hd⟩ := hev e hm;have hpv : e.base.pv = .sl e.base.f e.base.z (e.base.l.map Em) := rfl;have hel := Ac e;by_cases h5 : e.kind = 5
     · have eB : Dc l (n + 1) i = e.data := by simp only [Dc, hf, Gh, if_pos h5]
       (try simp only [D4, D3, D2, D1, D0, Dx, Dw, Dv]); simp (disch := omega) only [hel, Ae, h5, Hc, eB, go_sem]
     cases hbl : e.base.l with
     | nil =>
       obtain ⟨was, hwas⟩ : ∃ was : List UInt8, was = [] := ⟨_, rfl⟩
       have hwl : was.length ≤ 1000 := by rw [hwas]; simp
       have eB : Dc l (n + 1) i = Gh e was := by simp only [Dc, hf, hbl]; rw [hwas]
       (try simp only [D4, D3, D2, D1, D0, Dx, Dw, Dv]); simp (disch := omega) only [hel, Ae, h5, Gp, hpv, hbl, List.map_nil, ← hwas, go_sem]
       by_cases h4 : e.kind = 4
       · have eS : Gh e was = Y1 was e.off := by unfold Gh; rw [if_neg h5, if_pos h4]
         (try simp only [D4, D3, D2, D1, D0, Dx, Dw, Dv]); simp (disch := omega) only [Ae, h4, Ja, go_sem]
         refine Aa (Ar9 was e.off hwl) ?_;by_cases hb : e.off < 0 ∨ 200 < e.off
         · have ec := Jj (data := was) hb;have ew : Y1 was e.off = [] := if_pos hb;simp (disch := omega) only [ec, eB, eS, ew, go_sem]
         · have ec := Ls (data := was) hb;have ew : Y1 was e.off = Pk was e.off.toNat := if_neg hb;simp (disch := omega) only [ec, eB, eS, ew, go_sem]
       · have eS : Gh e was = Kz was e.off e.data := by unfold Gh; rw [if_neg h5, if_neg h4]
         (try simp only [D4, D3, D2, D1, D0, Dx, Dw, Dv]); simp (disch := omega) only [Ae, h4, Ja, Hc, go_sem]
         refine Aa (Aek was e.data e.off hd) ?_;by_cases hb : D7 was e.off e.data
         · have ec := Ek hb;have ew : Kz was e.off e.data = [] := if_pos hb;simp (disch := omega) only [ec, eB, eS, ew, go_sem]
         · have ec := Jg hb;have ew : Kz was e.off e.data = Iz was e.off.toNat e.data := if_neg hb;simp (disch := omega) only [ec, eB, eS, ew, go_sem]
     | cons b t =>
       have hok : e.base.z = 2 := he.2.1.resolve_left (by rw [hbl]; simp);have h0 : (List.map Em (b :: t))[0]? = some (Em b) := rfl;have hpos : (0 : Int) < ((t.length : Int) + 1) := by omega
       have hrk := hg e hm h5 b t hbl;have hre := hr e hf
       (try simp only [D4, D3, D2, D1, D0, Dx, Dw, Dv]); simp (disch := omega) only [hel, Ae, h5, Gp, hpv, hbl, hok, List.length_map, h0, E3, go_sem]
       refine Aa (Aeu hg hn hev n b (fun e' he' => by have := hrk e' he'; omega) _ f _ _ rfl rfl) ?_;have eB : Dc l (n + 1) i = Gh e (Dc l n b) := by simp only [Dc, hf, hbl]
       have hwl := Ai0 (fun e he => (hev e he).2) n b (l := l);generalize Dc l n b = was at *;simp (disch := omega) only [go_sem];by_cases h4 : e.kind = 4
       · have eS : Gh e was = Y1 was e.off := by unfold Gh; rw [if_neg h5, if_pos h4]
         (try simp only [D4, D3, D2, D1, D0, Dx, Dw, Dv]); simp (disch := omega) only [Ae, h4, Ja, go_sem]
         refine Aa (Ar9 was e.off hwl) ?_;by_cases hb : e.off < 0 ∨ 200 < e.off
         · have ec := Jj (data := was) hb;have ew : Y1 was e.off = [] := if_pos hb;simp (disch := omega) only [ec, eB, eS, ew, go_sem]
         · have ec := Ls (data := was) hb;have ew : Y1 was e.off = Pk was e.off.toNat := if_neg hb;simp (disch := omega) only [ec, eB, eS, ew, go_sem]
       · have eS : Gh e was = Kz was e.off e.data := by unfold Gh; rw [if_neg h5, if_neg h4]
         (try simp only [D4, D3, D2, D1, D0, Dx, Dw, Dv]); simp (disch := omega) only [Ae, h4, Ja, Hc, go_sem]
         refine Aa (Aek was e.data e.off hd) ?_;by_cases hb : D7 was e.off e.data
         · have ec := Ek hb;have ew : Kz was e.off e.data = [] := if_pos hb;simp (disch := omega) only [ec, eB, eS, ew, go_sem]
         · have ec := Jg hb;have ew : Kz was e.off e.data = Iz was e.off.toNat e.data := if_neg hb;simp (disch := omega) only [ec, eB, eS, ew, go_sem]
def mkB (e : Evt) : Bool := decide (e.kind = 1 ∨ e.kind = 2 ∨ e.kind = 7)
def Ez (e : Evt) : Bo := if e.kind = 7 then Ax e else Aj e
def Hr (f : Evt) (obj id : Bo) : Bool := decide (f.kind = 6 ∨ f.kind = 7) && (decide (Ax f = obj) && decide (id ∈ f.gone.l))
def byG (l : List Evt) (obj id : Bo) : Vc := l.foldl (fun g f => if Hr f obj id = true then Bc g f.rep f.seq else g) fun _ => 0
theorem R6 (l : List Evt) (f : Evt) (obj id : Bo) : byG (l ++ [f]) obj id = if Hr f obj id = true then Bc (byG l obj id) f.rep f.seq else byG l obj id := by simp [byG]
def C8 (m : List Evt) (e : Evt) : Ent := ⟨Aj e, Hf e, e.name, Ez e, byG m (Ez e) (Aj e)⟩
def Cz (l m : List Evt) : List Ent := m.foldl (fun out e => if mkB e = true then Fg out (C8 l e) false else out) []
theorem Qg (l m : List Evt) (e : Evt) : Cz l (m ++ [e]) = if mkB e = true then Fg (Cz l m) (C8 l e) false else Cz l m := by simp [Cz]
theorem Sx : ∀ (l : List Ent) (x : Ent) (b : Bool), (Fg l x b).length ≤ l.length + 1
 | [], x, b => by unfold Fg; split <;> simp
 | y :: l, x, b => by
   unfold Fg;split
   · have := Sx l x true; simp only [List.length_cons]; omega
   · split
     · have : Fg l x true = Fg l x true := rfl;have h2 : ∀ l : List Ent, (Fg l x true).length ≤ l.length := fun l => by
        induction l with
        | nil => simp [Fg]
        | cons z l ih => unfold Fg; split <;> simp <;> omega
       have := h2 l;simp only [List.length_cons]; omega
     · have := Sx l x b; simp only [List.length_cons]; omega
theorem Tr (l : List Evt) : ∀ (n : Nat) (m : List Evt), m.length = n → (Cz l m).length ≤ n
 | 0, m, h => by obtain rfl := List.eq_nil_of_length_eq_zero h; simp [Cz]
 | n + 1, m, h => by
   have hne : m ≠ [] := fun e => by subst e; simp at h
   have e1 := (List.dropLast_concat_getLast hne).symm;have h1 := Tr l n m.dropLast (by simp [h]);rw [e1, Qg];split
   · have := Sx (Cz l m.dropLast) (C8 l (m.getLast hne)) false; omega
   · omega
def Zb (f : Bool) (l : List Evt) (k : Nat) : FS := mk [(4, .pv (.i .i64 k)), (3, .os 40), (0, .pv (.sl f 21 (l.map Bq)))] [(40, some (.row 15 ((Cz l (l.take k)).map Bj)))]
def Ej (f : Bool) (l : List Evt) (k : Nat) (e : Evt) (j : Nat) : FS := mk [(7, .pv (.i .i64 j)), (4, .pv (.i .i64 k)), (3, .os 40), (6, .p 6 0), (0, .pv (.sl f 21 (l.map Bq)))] [(6, some (.var (.vec 15 (Bj (C8 (l.take j) e))))), (40, some (.row 15 ((Cz l (l.take k)).map Bj)))]
set_option maxHeartbeats 8000000 in
theorem Zq {x : SV} {f : Bool} {l : List Evt} {h d} (hx : Cl h [x] = [.pv (.sl f 21 (l.map Bq))]) (hl : Bf [x] = true) (hn : l.length ≤ 1000) (hev : ∀ e ∈ l, ev e) : FunOk Tryz.prog 14 [x] h d (.pv (.sl false 15 ((Cz l l).map Bj))) [] := by
 refine Aaa Af fn14 (by simp) hl (Ji _) fun F => ?_;rw [hx];simp (disch := omega) only [ir14, go_sem];refine A0 Af (Zb f l) (fun k => k ≤ l.length) (fun k => l.length - k) 0 (by simp) (Vx 3 40 15 rfl (by omega) (Ak ?_ ?_)) fun k hk => ?_
 · simp (disch := omega) only [go_sem]
 · simp (disch := omega) only [Cz, List.take_zero, List.foldl_nil, List.map_nil, go_sem]
 by_cases hlt : k < l.length
 · have hx : l[k]? = some l[k] := List.getElem?_eq_getElem hlt;have he : (l.map Bq)[k]? = some (Bq l[k]) := by rw [List.getElem?_map, hx]; rfl
   have ht := C4 hx;have hel := Ac l[k];have hsn := Qg l (l.take k) l[k];rw [← ht] at hsn;generalize l[k] = e at *;have hlen := Tr l _ (l.take k) rfl;have hlt' : (l.take k).length ≤ 1000 := by simp; omega
   by_cases hmk : mkB e = true;rotate_left
   · rw [if_neg hmk] at hsn;have hk3 : ¬ (e.kind = 1 ∨ e.kind = 2 ∨ e.kind = 7) := by simpa [mkB] using hmk
     have n1 : ¬ e.kind = 1 := by omega
     have n2 : ¬ e.kind = 2 := by omega
     have n7 : ¬ e.kind = 7 := by omega
     simp (disch := omega) only [Zb, List.length_map, he, Bx, hel, Ae, n1, n2, n7, go_sem];refine Ad (k + 1) _ _ rfl (by omega) (by omega) ?_ ?_
     · simp (disch := omega) only [go_sem]
     · simp (disch := omega) only [hsn, go_sem]
   rw [if_pos hmk] at hsn;have hk3 : e.kind = 1 ∨ e.kind = 2 ∨ e.kind = 7 := by simpa [mkB] using hmk
   rcases hk3 with h1 | h2 | h7
   · have hoi : Ez e = Aj e := if_neg (by omega);simp (disch := omega) only [Zb, List.length_map, he, Bx, hel, Ae, h1, Bb, Dh, Dq, go_sem];refine A0 Af (Ej f l k e) (fun j => j ≤ l.length) (fun j => l.length - j) 0 (by simp) (Ak ?_ ?_) fun j hj => ?_
     · simp (disch := omega) only [go_sem]
     · simp (disch := omega) only [C8, byG, List.take_zero, List.foldl_nil, hoi, go_sem];exact Hd rfl (Dn _)
     by_cases hjl : j < l.length
     · have hx2 : l[j]? = some l[j] := List.getElem?_eq_getElem hjl;have he2 : (l.map Bq)[j]? = some (Bq l[j]) := by rw [List.getElem?_map, hx2]; rfl
       have ht2 := C4 hx2;have hevj := hev _ (List.getElem_mem hjl);generalize l[j] = g at *;have hB : C8 (l.take (j + 1)) e = if Hr g (Ez e) (Aj e) = true then { C8 (l.take j) e with gone := Bc (C8 (l.take j) e).gone g.rep g.seq } else C8 (l.take j) e := by
        unfold C8; rw [ht2, R6]; split <;> rfl
       have hob : (C8 (l.take j) e).obj = Ez e := rfl;have hid : (C8 (l.take j) e).id = Aj e := rfl;generalize hX : C8 (l.take j) e = X at *;by_cases hg : g.kind = 6 ∨ g.kind = 7;rotate_left
       · have g6 : ¬ g.kind = 6 := fun q => hg (.inl q);have g7 : ¬ g.kind = 7 := fun q => hg (.inr q);have hgo : ¬ Hr g (Ez e) (Aj e) = true := by unfold Hr; simp [hg]
         rw [if_neg hgo] at hB;simp (disch := omega) only [Ej, hX, List.length_map, he2, Ae, g6, g7, go_sem];refine Ad (j + 1) _ _ rfl (by omega) (by omega) ?_ ?_
         · simp (disch := omega) only [go_sem]
         · simp (disch := omega) only [hB, go_sem]
       have hg' := hg;rcases hg with hg6 | hg7
       · skip
         by_cases ho : Ax g = X.obj;rotate_left
         · have hp := Fs ho;have hgo : ¬ Hr g (Ez e) (Aj e) = true := by
            rw [hob] at ho; unfold Hr; simp [ho]
           rw [if_neg hgo] at hB;simp (disch := omega) only [Ej, hX, List.length_map, he2, Ae, hg6, A9, C5, Ag, Br, hp, go_sem];refine Ad (j + 1) _ _ rfl (by omega) (by omega) ?_ ?_
           · simp (disch := omega) only [go_sem]
           · simp (disch := omega) only [hB, go_sem]
         have hp := Fq ho;have hpv : g.gone.pv = .sl g.gone.f g.gone.z (g.gone.l.map Em) := rfl;simp (disch := omega) only [Ej, hX, List.length_map, he2, Ae, hg6, A9, C5, Ag, Br, hp, Gq, Di, go_sem];refine Aa (P4 g.gone X.id hevj.1 hevj.2.2.1) ?_;by_cases hin : X.id ∈ g.gone.l
         · have hgo : Hr g (Ez e) (Aj e) = true := by
            rw [hob] at ho; rw [hid] at hin; unfold Hr; simp [hg', ho, hin]
           rw [if_pos hgo] at hB;have hsp := G0 X (Bc X.gone g.rep g.seq);have hvl := Bh (Bc X.gone g.rep g.seq);simp (disch := omega) only [hin, Im, List.length_map, he2, Bb, go_sem];refine Aa (E8 _ _ _) ?_;simp (disch := omega) only [hsp, hvl, go_sem];refine Ad (j + 1) _ _ rfl (by omega) (by omega) ?_ ?_
           · simp (disch := omega) only [go_sem]
           · simp (disch := omega) only [hB, go_sem]
         · have hgo : ¬ Hr g (Ez e) (Aj e) = true := by
            rw [hid] at hin; unfold Hr; simp [hin]
           rw [if_neg hgo] at hB;simp (disch := omega) only [hin, go_sem];refine Ad (j + 1) _ _ rfl (by omega) (by omega) ?_ ?_
           · simp (disch := omega) only [go_sem]
           · simp (disch := omega) only [hB, go_sem]
       · have g6 : ¬ g.kind = 6 := by omega
         by_cases ho : Ax g = X.obj;rotate_left
         · have hp := Fs ho;have hgo : ¬ Hr g (Ez e) (Aj e) = true := by
            rw [hob] at ho; unfold Hr; simp [ho]
           rw [if_neg hgo] at hB;simp (disch := omega) only [Ej, hX, List.length_map, he2, Ae, g6, hg7, A9, C5, Ag, Br, hp, go_sem];refine Ad (j + 1) _ _ rfl (by omega) (by omega) ?_ ?_
           · simp (disch := omega) only [go_sem]
           · simp (disch := omega) only [hB, go_sem]
         have hp := Fq ho;have hpv : g.gone.pv = .sl g.gone.f g.gone.z (g.gone.l.map Em) := rfl;simp (disch := omega) only [Ej, hX, List.length_map, he2, Ae, g6, hg7, A9, C5, Ag, Br, hp, Gq, Di, go_sem];refine Aa (P4 g.gone X.id hevj.1 hevj.2.2.1) ?_;by_cases hin : X.id ∈ g.gone.l
         · have hgo : Hr g (Ez e) (Aj e) = true := by
            rw [hob] at ho; rw [hid] at hin; unfold Hr; simp [hg', ho, hin]
           rw [if_pos hgo] at hB;have hsp := G0 X (Bc X.gone g.rep g.seq);have hvl := Bh (Bc X.gone g.rep g.seq);simp (disch := omega) only [hin, Im, List.length_map, he2, Bb, go_sem];refine Aa (E8 _ _ _) ?_;simp (disch := omega) only [hsp, hvl, go_sem];refine Ad (j + 1) _ _ rfl (by omega) (by omega) ?_ ?_
           · simp (disch := omega) only [go_sem]
           · simp (disch := omega) only [hB, go_sem]
         · have hgo : ¬ Hr g (Ez e) (Aj e) = true := by
            rw [hid] at hin; unfold Hr; simp [hin]
           rw [if_neg hgo] at hB;simp (disch := omega) only [hin, go_sem];refine Ad (j + 1) _ _ rfl (by omega) (by omega) ?_ ?_
           · simp (disch := omega) only [go_sem]
           · simp (disch := omega) only [hB, go_sem]
     · obtain rfl : j = l.length := by omega
       have htk : l.take l.length = l := List.take_length;simp (disch := omega) only [Ej, List.length_map, htk, Fd, go_sem];refine Aa (Abx (l := Cz l (l.take k)) (C8 l e) rfl rfl (by omega)) ?_;simp (disch := omega) only [go_sem];refine ⟨k + 1, by omega, by omega, Ix 40 rfl (Ei 99 40 (by decide) rfl (Ak ?_ ?_))⟩
       · simp (disch := omega) only [go_sem]
       · simp (disch := omega) only [hsn, go_sem]
   · have hoi : Ez e = Aj e := if_neg (by omega);have n1 : ¬ e.kind = 1 := by omega
     simp (disch := omega) only [Zb, List.length_map, he, Bx, hel, Ae, n1, h2, Bb, Dh, Dq, go_sem];refine A0 Af (Ej f l k e) (fun j => j ≤ l.length) (fun j => l.length - j) 0 (by simp) (Ak ?_ ?_) fun j hj => ?_
     · simp (disch := omega) only [go_sem]
     · simp (disch := omega) only [C8, byG, List.take_zero, List.foldl_nil, hoi, go_sem];exact Hd rfl (Dn _)
     by_cases hjl : j < l.length
     · have hx2 : l[j]? = some l[j] := List.getElem?_eq_getElem hjl;have he2 : (l.map Bq)[j]? = some (Bq l[j]) := by rw [List.getElem?_map, hx2]; rfl
       have ht2 := C4 hx2;have hevj := hev _ (List.getElem_mem hjl);generalize l[j] = g at *;have hB : C8 (l.take (j + 1)) e = if Hr g (Ez e) (Aj e) = true then { C8 (l.take j) e with gone := Bc (C8 (l.take j) e).gone g.rep g.seq } else C8 (l.take j) e := by
        unfold C8; rw [ht2, R6]; split <;> rfl
       have hob : (C8 (l.take j) e).obj = Ez e := rfl;have hid : (C8 (l.take j) e).id = Aj e := rfl;generalize hX : C8 (l.take j) e = X at *;by_cases hg : g.kind = 6 ∨ g.kind = 7;rotate_left
       · have g6 : ¬ g.kind = 6 := fun q => hg (.inl q);have g7 : ¬ g.kind = 7 := fun q => hg (.inr q);have hgo : ¬ Hr g (Ez e) (Aj e) = true := by unfold Hr; simp [hg]
         rw [if_neg hgo] at hB;simp (disch := omega) only [Ej, hX, List.length_map, he2, Ae, g6, g7, go_sem];refine Ad (j + 1) _ _ rfl (by omega) (by omega) ?_ ?_
         · simp (disch := omega) only [go_sem]
         · simp (disch := omega) only [hB, go_sem]
       have hg' := hg;rcases hg with hg6 | hg7
       · skip
         by_cases ho : Ax g = X.obj;rotate_left
         · have hp := Fs ho;have hgo : ¬ Hr g (Ez e) (Aj e) = true := by
            rw [hob] at ho; unfold Hr; simp [ho]
           rw [if_neg hgo] at hB;simp (disch := omega) only [Ej, hX, List.length_map, he2, Ae, hg6, A9, C5, Ag, Br, hp, go_sem];refine Ad (j + 1) _ _ rfl (by omega) (by omega) ?_ ?_
           · simp (disch := omega) only [go_sem]
           · simp (disch := omega) only [hB, go_sem]
         have hp := Fq ho;have hpv : g.gone.pv = .sl g.gone.f g.gone.z (g.gone.l.map Em) := rfl;simp (disch := omega) only [Ej, hX, List.length_map, he2, Ae, hg6, A9, C5, Ag, Br, hp, Gq, Di, go_sem];refine Aa (P4 g.gone X.id hevj.1 hevj.2.2.1) ?_;by_cases hin : X.id ∈ g.gone.l
         · have hgo : Hr g (Ez e) (Aj e) = true := by
            rw [hob] at ho; rw [hid] at hin; unfold Hr; simp [hg', ho, hin]
           rw [if_pos hgo] at hB;have hsp := G0 X (Bc X.gone g.rep g.seq);have hvl := Bh (Bc X.gone g.rep g.seq);simp (disch := omega) only [hin, Im, List.length_map, he2, Bb, go_sem];refine Aa (E8 _ _ _) ?_;simp (disch := omega) only [hsp, hvl, go_sem];refine Ad (j + 1) _ _ rfl (by omega) (by omega) ?_ ?_
           · simp (disch := omega) only [go_sem]
           · simp (disch := omega) only [hB, go_sem]
         · have hgo : ¬ Hr g (Ez e) (Aj e) = true := by
            rw [hid] at hin; unfold Hr; simp [hin]
           rw [if_neg hgo] at hB;simp (disch := omega) only [hin, go_sem];refine Ad (j + 1) _ _ rfl (by omega) (by omega) ?_ ?_
           · simp (disch := omega) only [go_sem]
           · simp (disch := omega) only [hB, go_sem]
       · have g6 : ¬ g.kind = 6 := by omega
         by_cases ho : Ax g = X.obj;rotate_left
         · have hp := Fs ho;have hgo : ¬ Hr g (Ez e) (Aj e) = true := by
            rw [hob] at ho; unfold Hr; simp [ho]
           rw [if_neg hgo] at hB;simp (disch := omega) only [Ej, hX, List.length_map, he2, Ae, g6, hg7, A9, C5, Ag, Br, hp, go_sem];refine Ad (j + 1) _ _ rfl (by omega) (by omega) ?_ ?_
           · simp (disch := omega) only [go_sem]
           · simp (disch := omega) only [hB, go_sem]
         have hp := Fq ho;have hpv : g.gone.pv = .sl g.gone.f g.gone.z (g.gone.l.map Em) := rfl;simp (disch := omega) only [Ej, hX, List.length_map, he2, Ae, g6, hg7, A9, C5, Ag, Br, hp, Gq, Di, go_sem];refine Aa (P4 g.gone X.id hevj.1 hevj.2.2.1) ?_;by_cases hin : X.id ∈ g.gone.l
         · have hgo : Hr g (Ez e) (Aj e) = true := by
            rw [hob] at ho; rw [hid] at hin; unfold Hr; simp [hg', ho, hin]
           rw [if_pos hgo] at hB;have hsp := G0 X (Bc X.gone g.rep g.seq);have hvl := Bh (Bc X.gone g.rep g.seq);simp (disch := omega) only [hin, Im, List.length_map, he2, Bb, go_sem];refine Aa (E8 _ _ _) ?_;simp (disch := omega) only [hsp, hvl, go_sem];refine Ad (j + 1) _ _ rfl (by omega) (by omega) ?_ ?_
           · simp (disch := omega) only [go_sem]
           · simp (disch := omega) only [hB, go_sem]
         · have hgo : ¬ Hr g (Ez e) (Aj e) = true := by
            rw [hid] at hin; unfold Hr; simp [hin]
           rw [if_neg hgo] at hB;simp (disch := omega) only [hin, go_sem];refine Ad (j + 1) _ _ rfl (by omega) (by omega) ?_ ?_
           · simp (disch := omega) only [go_sem]
           · simp (disch := omega) only [hB, go_sem]
     · obtain rfl : j = l.length := by omega
       have htk : l.take l.length = l := List.take_length;simp (disch := omega) only [Ej, List.length_map, htk, Fd, go_sem];refine Aa (Abx (l := Cz l (l.take k)) (C8 l e) rfl rfl (by omega)) ?_;simp (disch := omega) only [go_sem];refine ⟨k + 1, by omega, by omega, Ix 40 rfl (Ei 99 40 (by decide) rfl (Ak ?_ ?_))⟩
       · simp (disch := omega) only [go_sem]
       · simp (disch := omega) only [hsn, go_sem]
   · have hoi : Ez e = Ax e := if_pos h7;have n1 : ¬ e.kind = 1 := by omega
     have n2 : ¬ e.kind = 2 := by omega
     simp (disch := omega) only [Zb, List.length_map, he, Bx, hel, Ae, n1, n2, h7, Bb, Dh, Dq, A9, go_sem];refine A0 Af (Ej f l k e) (fun j => j ≤ l.length) (fun j => l.length - j) 0 (by simp) (Ak ?_ ?_) fun j hj => ?_
     · simp (disch := omega) only [go_sem]
     · simp (disch := omega) only [C8, byG, List.take_zero, List.foldl_nil, hoi, go_sem];exact Hd rfl (Dn _)
     by_cases hjl : j < l.length
     · have hx2 : l[j]? = some l[j] := List.getElem?_eq_getElem hjl;have he2 : (l.map Bq)[j]? = some (Bq l[j]) := by rw [List.getElem?_map, hx2]; rfl
       have ht2 := C4 hx2;have hevj := hev _ (List.getElem_mem hjl);generalize l[j] = g at *;have hB : C8 (l.take (j + 1)) e = if Hr g (Ez e) (Aj e) = true then { C8 (l.take j) e with gone := Bc (C8 (l.take j) e).gone g.rep g.seq } else C8 (l.take j) e := by
        unfold C8; rw [ht2, R6]; split <;> rfl
       have hob : (C8 (l.take j) e).obj = Ez e := rfl;have hid : (C8 (l.take j) e).id = Aj e := rfl;generalize hX : C8 (l.take j) e = X at *;by_cases hg : g.kind = 6 ∨ g.kind = 7;rotate_left
       · have g6 : ¬ g.kind = 6 := fun q => hg (.inl q);have g7 : ¬ g.kind = 7 := fun q => hg (.inr q);have hgo : ¬ Hr g (Ez e) (Aj e) = true := by unfold Hr; simp [hg]
         rw [if_neg hgo] at hB;simp (disch := omega) only [Ej, hX, List.length_map, he2, Ae, g6, g7, go_sem];refine Ad (j + 1) _ _ rfl (by omega) (by omega) ?_ ?_
         · simp (disch := omega) only [go_sem]
         · simp (disch := omega) only [hB, go_sem]
       have hg' := hg;rcases hg with hg6 | hg7
       · skip
         by_cases ho : Ax g = X.obj;rotate_left
         · have hp := Fs ho;have hgo : ¬ Hr g (Ez e) (Aj e) = true := by
            rw [hob] at ho; unfold Hr; simp [ho]
           rw [if_neg hgo] at hB;simp (disch := omega) only [Ej, hX, List.length_map, he2, Ae, hg6, A9, C5, Ag, Br, hp, go_sem];refine Ad (j + 1) _ _ rfl (by omega) (by omega) ?_ ?_
           · simp (disch := omega) only [go_sem]
           · simp (disch := omega) only [hB, go_sem]
         have hp := Fq ho;have hpv : g.gone.pv = .sl g.gone.f g.gone.z (g.gone.l.map Em) := rfl;simp (disch := omega) only [Ej, hX, List.length_map, he2, Ae, hg6, A9, C5, Ag, Br, hp, Gq, Di, go_sem];refine Aa (P4 g.gone X.id hevj.1 hevj.2.2.1) ?_;by_cases hin : X.id ∈ g.gone.l
         · have hgo : Hr g (Ez e) (Aj e) = true := by
            rw [hob] at ho; rw [hid] at hin; unfold Hr; simp [hg', ho, hin]
           rw [if_pos hgo] at hB;have hsp := G0 X (Bc X.gone g.rep g.seq);have hvl := Bh (Bc X.gone g.rep g.seq);simp (disch := omega) only [hin, Im, List.length_map, he2, Bb, go_sem];refine Aa (E8 _ _ _) ?_;simp (disch := omega) only [hsp, hvl, go_sem];refine Ad (j + 1) _ _ rfl (by omega) (by omega) ?_ ?_
           · simp (disch := omega) only [go_sem]
           · simp (disch := omega) only [hB, go_sem]
         · have hgo : ¬ Hr g (Ez e) (Aj e) = true := by
            rw [hid] at hin; unfold Hr; simp [hin]
           rw [if_neg hgo] at hB;simp (disch := omega) only [hin, go_sem];refine Ad (j + 1) _ _ rfl (by omega) (by omega) ?_ ?_
           · simp (disch := omega) only [go_sem]
           · simp (disch := omega) only [hB, go_sem]
       · have g6 : ¬ g.kind = 6 := by omega
         by_cases ho : Ax g = X.obj;rotate_left
         · have hp := Fs ho;have hgo : ¬ Hr g (Ez e) (Aj e) = true := by
            rw [hob] at ho; unfold Hr; simp [ho]
           rw [if_neg hgo] at hB;simp (disch := omega) only [Ej, hX, List.length_map, he2, Ae, g6, hg7, A9, C5, Ag, Br, hp, go_sem];refine Ad (j + 1) _ _ rfl (by omega) (by omega) ?_ ?_
           · simp (disch := omega) only [go_sem]
           · simp (disch := omega) only [hB, go_sem]
         have hp := Fq ho;have hpv : g.gone.pv = .sl g.gone.f g.gone.z (g.gone.l.map Em) := rfl;simp (disch := omega) only [Ej, hX, List.length_map, he2, Ae, g6, hg7, A9, C5, Ag, Br, hp, Gq, Di, go_sem];refine Aa (P4 g.gone X.id hevj.1 hevj.2.2.1) ?_;by_cases hin : X.id ∈ g.gone.l
         · have hgo : Hr g (Ez e) (Aj e) = true := by
            rw [hob] at ho; rw [hid] at hin; unfold Hr; simp [hg', ho, hin]
           rw [if_pos hgo] at hB;have hsp := G0 X (Bc X.gone g.rep g.seq);have hvl := Bh (Bc X.gone g.rep g.seq);simp (disch := omega) only [hin, Im, List.length_map, he2, Bb, go_sem];refine Aa (E8 _ _ _) ?_;simp (disch := omega) only [hsp, hvl, go_sem];refine Ad (j + 1) _ _ rfl (by omega) (by omega) ?_ ?_
           · simp (disch := omega) only [go_sem]
           · simp (disch := omega) only [hB, go_sem]
         · have hgo : ¬ Hr g (Ez e) (Aj e) = true := by
            rw [hid] at hin; unfold Hr; simp [hin]
           rw [if_neg hgo] at hB;simp (disch := omega) only [hin, go_sem];refine Ad (j + 1) _ _ rfl (by omega) (by omega) ?_ ?_
           · simp (disch := omega) only [go_sem]
           · simp (disch := omega) only [hB, go_sem]
     · obtain rfl : j = l.length := by omega
       have htk : l.take l.length = l := List.take_length;simp (disch := omega) only [Ej, List.length_map, htk, Fd, go_sem];refine Aa (Abx (l := Cz l (l.take k)) (C8 l e) rfl rfl (by omega)) ?_;simp (disch := omega) only [go_sem];refine ⟨k + 1, by omega, by omega, Ix 40 rfl (Ei 99 40 (by decide) rfl (Ak ?_ ?_))⟩
       · simp (disch := omega) only [go_sem]
       · simp (disch := omega) only [hsn, go_sem]
 · obtain rfl : k = l.length := by omega
   have htk : l.take l.length = l := List.take_length;simp (disch := omega) only [Zb, List.length_map, htk, go_sem]
theorem A4t {x y : SV} {f g : Bool} {l : List Ver} {bs : List Bo} {v : Ver} {h d} (hx : Cl h [x, y, .vec 11 (A6 v)] = [.pv (.sl f 11 (l.map A6)), .pv (.sl g 2 (bs.map Em)), .vec 11 (A6 v)]) (hl : Bf [x, y, .vec 11 (A6 v)] = true)
 (hs : Ck l) (hn : l.length ≤ 900) (hbn : bs.length ≤ 900) (hm : ¬ C7 l bs) (ho : Bt l v.rep v.seq = none) :
 FunOk Tryz.prog 62 [x, y, .vec 11 (A6 v)] h d (.tup [.os d, .pv (.i .i64 0)]) [.new d (.row 11 ((Fk l bs v).map A6))] := by
 refine Aua Af fn62 (by simp) hl (.inr (Za _)) rfl fun F => ?_;rw [hx];exact Awk hs hn hbn (fun h => absurd h hm) (fun _ h => by rw [ho] at h; cases h) (fun _ _ g n hg => ⟨n, rfl, hg⟩)
def Pv (e : Evt) : Bool := decide (e.kind = 3 ∨ e.kind = 4 ∨ e.kind = 5)
def Z5 (g : Evt) (obj id : Bo) : Bool := Pv g && (decide (Ax g = obj) && decide (id ∈ g.base.l))
def gvG (l : List Evt) (obj id : Bo) : Vc := l.foldl (fun a g => if Z5 g obj id = true then Bc a g.rep g.seq else a) fun _ => 0
theorem Afp (l : List Evt) (g : Evt) (obj id : Bo) : gvG (l ++ [g]) obj id = if Z5 g obj id = true then Bc (gvG l obj id) g.rep g.seq else gvG l obj id := by simp [gvG]
noncomputable def Gu (l m : List Evt) (e : Evt) : Ver := ⟨e.rep, e.seq, Dc l l.length (Aj e), gvG m (Ax e) (Aj e)⟩
noncomputable def Cv (l : List Evt) (obj : Bo) (m : List Evt) : List Ver := m.foldl (fun out e => if Pv e = true ∧ Ax e = obj then Fk out [] (Gu l l e) else out) []
theorem Px (l : List Evt) (obj : Bo) (m : List Evt) (e : Evt) : Cv l obj (m ++ [e]) = if Pv e = true ∧ Ax e = obj then Fk (Cv l obj m) [] (Gu l l e) else Cv l obj m := by simp [Cv]
theorem Ank {l : List Ver} {v x : Ver} : x ∈ Fk l [] v ↔ x = v ∨ x ∈ l := by
 unfold Fk; rw [Oz];simp only [List.mem_append, List.mem_cons];have : x ∈ l ↔ x ∈ l.take (Ql l v.rep v.seq 0).1 ∨ x ∈ l.drop (Ql l v.rep v.seq 0).1 := by
  rw [← List.mem_append, List.take_append_drop]
 rw [this];constructor
 · rintro (h | h | h)
   · exact .inr (.inl h)
   · exact .inl h
   · exact .inr (.inr h)
 · rintro (h | h | h)
   · exact .inr (.inl h)
   · exact .inl h
   · exact .inr (.inr h)
theorem Apx (l : List Ver) (v : Ver) : (Fk l [] v).length = l.length + 1 := by
 unfold Fk; rw [Oz];simp only [List.length_append, List.length_take, List.length_cons, List.length_drop]; omega
theorem Ac8 {l : List Ver} {v : Ver} (hs : Ck l) (hn : Bt l v.rep v.seq = none) : Ck (Fk l [] v) := by
 unfold Fk; rw [Oz];have hfalse : Ql l v.rep v.seq 0 = ((Ql l v.rep v.seq 0).1, false) := by
  rcases h : Ql l v.rep v.seq 0 with ⟨i, b⟩
  cases b with
  | false => rfl
  | true =>
    obtain ⟨_, u, _, _, h4⟩ := Iu h;rw [hn] at h4; cases h4
 obtain ⟨_, _, _, _, h5, h6⟩ := H4 hs hfalse;generalize (Ql l v.rep v.seq 0).1 = p at *;simp only [Nat.sub_zero] at h5 h6;refine List.pairwise_append.2 ⟨hs.sublist (List.take_sublist _ _), List.pairwise_cons.2 ⟨fun u hu => h6 u hu, hs.sublist (List.drop_sublist _ _)⟩, fun a ha b hb => ?_⟩;rcases List.mem_cons.1 hb with rfl | hb
 · exact h5 a ha
 · have := h5 a ha;exact Qb this (h6 b hb)
theorem Oj {l : List Evt} {obj : Bo} {v : Ver} : ∀ (n : Nat) (m : List Evt), m.length = n → (v ∈ Cv l obj m ↔ ∃ e ∈ m, (Pv e = true ∧ Ax e = obj) ∧ v = Gu l l e)
 | 0, m, h => by obtain rfl := List.eq_nil_of_length_eq_zero h; simp [Cv]
 | n + 1, m, h => by
   have hne : m ≠ [] := fun e => by subst e; simp at h
   have e1 := (List.dropLast_concat_getLast hne).symm;have ih := Oj (l := l) (obj := obj) (v := v) n m.dropLast (by simp [h]);rw [e1, Px];generalize m.getLast hne = e at *;generalize m.dropLast = m' at *;split
   · rename_i hc;rw [Ank, ih];constructor
     · rintro (rfl | ⟨f, h1, h2⟩)
       · exact ⟨e, by simp, hc, rfl⟩
       · exact ⟨f, by simp [h1], h2⟩
     · rintro ⟨f, h1, h2, h3⟩;rcases List.mem_append.1 h1 with h1 | h1
       · exact .inr ⟨f, h1, h2, h3⟩
       · rw [List.mem_singleton] at h1; subst h1; exact .inl h3
   · rename_i hc;rw [ih];constructor
     · rintro ⟨f, h1, h2⟩; exact ⟨f, by simp [h1], h2⟩
     · rintro ⟨f, h1, h2, h3⟩;rcases List.mem_append.1 h1 with h1 | h1
       · exact ⟨f, h1, h2, h3⟩
       · rw [List.mem_singleton] at h1; subst h1; exact absurd h2 hc
def NodE (l : List Evt) : Prop := (l.map Aj).Nodup
theorem Y9 {l m : List Evt} {obj : Bo} {e : Evt} (hn : NodE (m ++ [e])) : Bt (Cv l obj m) e.rep e.seq = none := by
 rw [Qd];intro v hv ⟨h1, h2⟩;obtain ⟨f, hf, _, rfl⟩ := (Oj m.length m rfl).1 hv;have : Aj f = Aj e := Prod.ext h1 h2;unfold NodE at hn;rw [List.map_append, List.nodup_append] at hn;exact hn.2.2 (Aj f) (List.mem_map_of_mem hf) (Aj e) (by simp) this
theorem NodE.take {l : List Evt} (h : NodE l) (k : Nat) : NodE (l.take k) := by
 unfold NodE at *; rw [List.map_take]; exact h.sublist (List.take_sublist _ _)
theorem I7 {l : List Evt} {obj : Bo} : ∀ (n : Nat) (m : List Evt), m.length = n → NodE m → Ck (Cv l obj m) ∧ (Cv l obj m).length ≤ n
 | 0, m, h, _ => by obtain rfl := List.eq_nil_of_length_eq_zero h; exact ⟨List.Pairwise.nil, by simp [Cv]⟩
 | n + 1, m, h, hn => by
   have hne : m ≠ [] := fun e => by subst e; simp at h
   have e1 := (List.dropLast_concat_getLast hne).symm;have hn' : NodE m.dropLast := by unfold NodE at *; rw [List.map_dropLast]; exact hn.sublist (List.dropLast_sublist _)
   obtain ⟨h1, h2⟩ := I7 (l := l) (obj := obj) n m.dropLast (by simp [h]) hn';rw [e1] at hn ⊢;rw [Px];split
   · exact ⟨Ac8 h1 (Y9 hn), by rw [Apx]; omega⟩
   · exact ⟨h1, by omega⟩
theorem Aym {l : List Ver} {v : Ver} (hs : Ck l) (hn : l.length ≤ 900) (ho : Bt l v.rep v.seq = none) {h d} (hh : h 40 = some (.row 11 (l.map A6))) :
 FunOk Tryz.prog 62 [.os 40, .pv (.sl true 0 []), .vec 11 (A6 v)] h d (.tup [.os d, .pv (.i .i64 0)]) [.new d (.row 11 ((Fk l [] v).map A6))] := by
 refine FunOk.imp (args' := [.os 40, .pv (.sl true 2 []), .vec 11 (A6 v)]) ?_ ⟨Imp.refl _, Gw (Kh id (.inl rfl) (.refl _)), Imp.refl _, trivial⟩ (by simp [A5, tn]);exact A4t (f := false) (g := true) (l := l) (bs := []) (by simp only [Cl, Ll, hh]; rfl) rfl hs hn (by simp) (fun ⟨b, hb, _⟩ => by simp at hb) ho
structure EvsOk (l : List Evt) (rk : Evt → Nat) : Prop where
 len : l.length ≤ 400
 nod : NodE l
 ev : ∀ e ∈ l, ev e ∧ e.data.length ≤ 1000
 grd : Grd l rk
 rk : ∀ e ∈ l, rk e < l.length
noncomputable def Aqn (f : Bool) (l : List Evt) (o : Bo) (k : Nat) : FS := mk [(6, .pv (.i .i64 k)), (5, .os 40), (0, .pv (.sl f 21 (l.map Bq))), (3, .p 3 0)] [(3, some (.var (.vec 2 [.i .i64 o.1, .i .u32 o.2]))), (40, some (.row 11 ((Cv l o (l.take k)).map A6)))]
noncomputable def Ads (f : Bool) (l : List Evt) (o : Bo) (k : Nat) (e : Evt) (j : Nat) : FS := mk [(8, .pv (.i .i64 j)), (6, .pv (.i .i64 k)), (5, .os 40), (7, .p 7 0), (0, .pv (.sl f 21 (l.map Bq))), (3, .p 3 0)] [(7, some (.var (.vec 11 (A6 (Gu l (l.take j) e))))), (3, some (.var (.vec 2 [.i .i64 o.1, .i .u32 o.2]))), (40, some (.row 11 ((Cv l o (l.take k)).map A6)))]
theorem Aqc (r : Int) (q : Nat) (s : List UInt8) (g : Vc) : Imp (.agg [.vec 2 [.i .i64 r, .i .u32 q], .pv (.s s), .vec 8 (vE g)]) (.vec 11 (A6 ⟨r, q, s, g⟩)) := Hd (by rfl) (Hb _)
set_option maxHeartbeats 8000000 in
theorem W0 {x : SV} {f : Bool} {l : List Evt} {rk : Evt → Nat} (o : Bo) {h d} (hx : Cl h [x, .vec 2 [.i .i64 o.1, .i .u32 o.2]] = [.pv (.sl f 21 (l.map Bq)), .vec 2 [.i .i64 o.1, .i .u32 o.2]]) (hl : Bf [x, .vec 2 [.i .i64 o.1, .i .u32 o.2]] = true) (hE : EvsOk l rk) : FunOk Tryz.prog 36 [x, .vec 2 [.i .i64 o.1, .i .u32 o.2]] h d (.pv (.sl false 11 ((Cv l o l).map A6))) [] := by
 refine Aaa Af fn36 (by simp) hl (Za _) fun F => ?_;rw [hx];have hn := hE.len;simp (disch := omega) only [ir36, go_sem];refine A0 Af (Aqn f l o) (fun k => k ≤ l.length) (fun k => l.length - k) 0 (by simp) (Vx 5 40 11 rfl (by omega) (Ak ?_ ?_)) fun k hk => ?_
 · simp (disch := omega) only [go_sem]
 · simp (disch := omega) only [Cv, List.take_zero, List.foldl_nil, List.map_nil, go_sem]
 by_cases hlt : k < l.length
 · have hx : l[k]? = some l[k] := List.getElem?_eq_getElem hlt;have he : (l.map Bq)[k]? = some (Bq l[k]) := by rw [List.getElem?_map, hx]; rfl
   have ht := C4 hx;have hsn := Px l o (l.take k) l[k];have hnd := hE.nod.take (k + 1);rw [ht] at hnd;rw [← ht] at hsn;have hmem := List.getElem_mem hlt;generalize l[k] = e at *;obtain ⟨hso, hle⟩ := I7 (l := l) (obj := o) _ (l.take k) rfl (hE.nod.take k);have hle' : (l.take k).length ≤ 400 := by simp; omega
   have hnew := Y9 (l := l) (obj := o) hnd;have hwb : Pv e = decide (e.kind = 3 ∨ e.kind = 4 ∨ e.kind = 5) := rfl;by_cases hw : Pv e = true;rotate_left
   · rw [if_neg (fun q => hw q.1)] at hsn;have hw' : Pv e = false := by simpa using hw
     simp (disch := omega) only [Aqn, List.length_map, he, Bx, go_sem];refine Aa (Le e) ?_;rw [← hwb, hw'];simp (disch := omega) only [go_sem];refine Ad (k + 1) _ _ rfl (by omega) (by omega) ?_ ?_
     · simp (disch := omega) only [go_sem]
     · simp (disch := omega) only [hsn, go_sem]
   by_cases ho : Ax e = o;rotate_left
   · rw [if_neg (fun q => ho q.2)] at hsn;have hp := Fs ho;simp (disch := omega) only [Aqn, List.length_map, he, Bx, go_sem];refine Aa (Le e) ?_;rw [← hwb, hw];simp (disch := omega) only [he, A9, Ag, Br, hp, List.length_map, go_sem];refine Ad (k + 1) _ _ rfl (by omega) (by omega) ?_ ?_
     · simp (disch := omega) only [go_sem]
     · simp (disch := omega) only [hsn, go_sem]
   rw [if_pos ⟨hw, ho⟩] at hsn;have hp := Fq ho;simp (disch := omega) only [Aqn, List.length_map, he, Bx, go_sem];refine Aa (Le e) ?_;rw [← hwb, hw];simp (disch := omega) only [he, A9, Ag, Br, hp, List.length_map, Bb, go_sem];refine Aa (Aeu (rk := rk) hE.grd (by omega) hE.ev l.length (Aj e) (fun e' he' => hE.rk e' (List.mem_of_find?_eq_some he')) _ f _ _ rfl rfl) ?_;simp (disch := omega) only [go_sem];refine A0 Af (Ads f l o k e) (fun j => j ≤ l.length) (fun j => l.length - j) 0 (by simp) (Ak ?_ ?_) fun j hj => ?_
   · simp (disch := omega) only [go_sem]
   · simp (disch := omega) only [Gu, gvG, List.take_zero, List.foldl_nil, go_sem];exact Aqc _ _ _ _
   by_cases hjl : j < l.length
   · have hx2 : l[j]? = some l[j] := List.getElem?_eq_getElem hjl;have he2 : (l.map Bq)[j]? = some (Bq l[j]) := by rw [List.getElem?_map, hx2]; rfl
     have ht2 := C4 hx2;have hevj := (hE.ev _ (List.getElem_mem hjl)).1;generalize l[j] = g at *;have hB : Gu l (l.take (j + 1)) e = if Z5 g (Ax e) (Aj e) = true then { Gu l (l.take j) e with gone := Bc (Gu l (l.take j) e).gone g.rep g.seq } else Gu l (l.take j) e := by
      unfold Gu; rw [ht2, Afp]; split <;> rfl
     have hid : ((Gu l (l.take j) e).rep, (Gu l (l.take j) e).seq) = Aj e := rfl;generalize hX : Gu l (l.take j) e = X at *;have hwg : Pv g = decide (g.kind = 3 ∨ g.kind = 4 ∨ g.kind = 5) := rfl;by_cases hg : Pv g = true;rotate_left
     · have hgo : ¬ Z5 g (Ax e) (Aj e) = true := by unfold Z5; simp [hg]
       have hg' : Pv g = false := by simpa using hg
       rw [if_neg hgo] at hB;simp (disch := omega) only [Ads, hX, List.length_map, he2, Bx, go_sem];refine Aa (Le g) ?_;rw [← hwg, hg'];simp (disch := omega) only [go_sem];refine Ad (j + 1) _ _ rfl (by omega) (by omega) ?_ ?_
       · simp (disch := omega) only [go_sem]
       · simp (disch := omega) only [hB, go_sem]
     by_cases hog : Ax g = o;rotate_left
     · have hp2 := Fs hog;have hgo : ¬ Z5 g (Ax e) (Aj e) = true := by rw [← ho] at hog; unfold Z5; simp [hog]
       rw [if_neg hgo] at hB;simp (disch := omega) only [Ads, hX, List.length_map, he2, Bx, go_sem];refine Aa (Le g) ?_;rw [← hwg, hg];simp (disch := omega) only [List.length_map, he2, A9, Ag, Br, hp2, go_sem];refine Ad (j + 1) _ _ rfl (by omega) (by omega) ?_ ?_
       · simp (disch := omega) only [go_sem]
       · simp (disch := omega) only [hB, go_sem]
     have hp2 := Fq hog;have hpv : g.base.pv = .sl g.base.f g.base.z (g.base.l.map Em) := rfl;simp (disch := omega) only [Ads, hX, List.length_map, he2, Bx, go_sem];refine Aa (Le g) ?_;rw [← hwg, hg];simp (disch := omega) only [List.length_map, he2, A9, Ag, Br, hp2, Gp, Cy, go_sem];refine Aa (P4 g.base (X.rep, X.seq) hevj.2.1 hevj.2.2.2.1) ?_;by_cases hin : (X.rep, X.seq) ∈ g.base.l
     · have hgo : Z5 g (Ax e) (Aj e) = true := by
        rw [hid] at hin; unfold Z5; simp [hg, hog, ho, hin]
       rw [if_pos hgo] at hB;have hsp := Jm X (Bc X.gone g.rep g.seq);have hvl := Bh (Bc X.gone g.rep g.seq);simp (disch := omega) only [hin, Nt, List.length_map, he2, Bb, go_sem];refine Aa (E8 _ _ _) ?_;simp (disch := omega) only [hsp, hvl, go_sem];refine Ad (j + 1) _ _ rfl (by omega) (by omega) ?_ ?_
       · simp (disch := omega) only [go_sem]
       · simp (disch := omega) only [hB, go_sem]
     · have hgo : ¬ Z5 g (Ax e) (Aj e) = true := by
        rw [hid] at hin; unfold Z5; simp [hin]
       rw [if_neg hgo] at hB;simp (disch := omega) only [hin, go_sem];refine Ad (j + 1) _ _ rfl (by omega) (by omega) ?_ ?_
       · simp (disch := omega) only [go_sem]
       · simp (disch := omega) only [hB, go_sem]
   · obtain rfl : j = l.length := by omega
     have htk : l.take l.length = l := List.take_length;simp (disch := omega) only [Ads, List.length_map, htk, K0, go_sem];refine Aa (Aym (l := Cv l o (l.take k)) (v := Gu l l e) hso (by omega) hnew rfl) ?_;simp (disch := omega) only [go_sem];refine ⟨k + 1, by omega, by omega, Ix 40 rfl (Ei 85 40 (by decide) rfl (Ak ?_ ?_))⟩
     · simp (disch := omega) only [go_sem]
     · simp (disch := omega) only [hsn, go_sem]
 · obtain rfl : k = l.length := by omega
   have htk : l.take l.length = l := List.take_length;simp (disch := omega) only [Aqn, List.length_map, htk, go_sem]
mutual
theorem A1z {π : Nat → Nat} : ∀ {x : SV}, x.closed = true → x.rn π = x
 | .pv _, _ => rfl
 | .vec _ _, _ => rfl
 | .pi _ _ _ _, _ => rfl
 | .dead, _ => rfl
 | .agg l, h => by simp only [SV.closed] at h; simp only [SV.rn, Wt h]
 | .tup l, h => by simp only [SV.closed] at h; simp only [SV.rn, Wt h]
 | .fn f l, h => by simp only [SV.closed] at h; simp only [SV.rn, Wt h]
 | .p _ _, h => by simp [SV.closed] at h
 | .ps _ _, h => by simp [SV.closed] at h
 | .pr _ _ _ _, h => by simp [SV.closed] at h
 | .os _, h => by simp [SV.closed] at h
 | .ov _ _ _ _, h => by simp [SV.closed] at h
theorem Wt {π : Nat → Nat} : ∀ {l : List SV}, SV.closedL l = true → SV.rnL π l = l
 | [], _ => rfl
 | x :: l, h => by
   simp only [SV.closedL, Bool.and_eq_true] at h;simp only [SV.rnL, A1z h.1, Wt h.2]
end
mutual
theorem A8g : ∀ {x : SV}, x.closed = true → tn x = []
 | .pv _, _ => rfl
 | .vec _ _, _ => rfl
 | .pi _ _ _ _, _ => rfl
 | .dead, _ => rfl
 | .agg l, h => by simp only [SV.closed] at h; simp only [tn, Qw h]
 | .tup l, h => by simp only [SV.closed] at h; simp only [tn, Qw h]
 | .fn f l, h => by simp only [SV.closed] at h; simp only [tn, Qw h]
 | .p _ _, h => by simp [SV.closed] at h
 | .ps _ _, h => by simp [SV.closed] at h
 | .pr _ _ _ _, h => by simp [SV.closed] at h
 | .os _, h => by simp [SV.closed] at h
 | .ov _ _ _ _, h => by simp [SV.closed] at h
theorem Qw : ∀ {l : List SV}, SV.closedL l = true → A5 l = []
 | [], _ => rfl
 | x :: l, h => by
   simp only [SV.closedL, Bool.and_eq_true] at h;simp only [A5, A8g h.1, Qw h.2, List.append_nil]
end
theorem A1v (a m : Nat) : sw1 a m a = m := if_pos rfl
theorem FunOk.quiet {P : Program} {f : Nat} {args : List SV} {h : Nat → Option Blk} {d g : Nat} {x : SV} {blk : Blk} (hf : FunOk P f args h d x [.upd g blk]) (hg : h g = some blk) (hin : g ∈ A5 args) : FunOk P f args h d x [] :=
 ⟨hf.1, fun F N ρ s a w hR hh vs hc => by
  have hs : s.h g = some blk := (hh g hin).trans hg;have e : s.hup [.upd g blk] = s := FS.ext' (fun _ => rfl) fun n => by
   simp only [FS.hup, FS.seth];split
   · rename_i e; rw [e]; exact hs.symm
   · rfl
  have := hf.2 F N ρ s a w hR hh vs hc;rw [e] at this;exact this⟩
theorem FunOk.ioRow {P : Program} {f : Nat} {a : List SV} {sz : Nat} {es : List (List PV)} {x : SV} (hf : ∀ h d, h 900 = some (.row sz es) → FunOk P f (.os 900 :: a) h d x [.upd 900 (.row sz es)]) (ha : SV.closedL a = true) (hx : x.closed = true) {g : Nat} {h : Nat → Option Blk} {d : Nat} (hg : h g = some (.row sz es)) :
 FunOk P f (.os g :: a) h d x [] := by
 have h1 := (hf (fun k => h (sw1 900 g k)) d (by show h (sw1 900 g 900) = _; rw [A1v]; exact hg)).rn (π := sw1 900 g) (Ajy 900 g) (d' := d);simp only [SV.rnL, SV.rn, HU.rn, Blk.rn, List.map_cons, List.map_nil, A1v, Wt ha, A1z hx] at h1;refine FunOk.quiet (g := g) (blk := .row sz es) (h1.at fun n hn => ?_) hg (by simp [A5, tn]);simp only [A5, tn, Qw ha, List.append_nil, List.mem_singleton] at hn;subst hn;simp only [Ajy, hg, Option.map_some, Blk.rn]
def D5 (e : Evt) (o : Obj) (f : Evt) : Obj :=
 if Ax f = Aj e then
  if f.kind = 7 then (if Ch o.last.1 o.last.2 f.rep f.seq = true then { o with last := Aj f, name := f.name } else o)
  else if f.kind = 6 then { o with seen := Cw o.seen (Bc f.dep f.rep f.seq) } else o
 else o
noncomputable def C6 (l m : List Evt) (e : Evt) : Obj := m.foldl (D5 e) ⟨Aj e, decide (e.kind = 2), Aj e, e.name, fun _ => 0, Cv l (Aj e) l⟩
theorem Jh (l m : List Evt) (e f : Evt) : C6 l (m ++ [f]) e = D5 e (C6 l m e) f := by simp [C6]
def Ge : SV := .agg [.pv (.i .i64 0), .pv (.i .u32 0), .pv (.b false), .pv (.i .i64 0), .pv (.i .u32 0), .pv (.s []), .vec 8 (vE fun _ => 0), .pv (.sl true 0 [])]
theorem Aku (o : Obj) : Imp (.agg [.vec 2 [.i .i64 o.id.1, .i .u32 o.id.2], .pv (.b o.dir), .vec 2 [.i .i64 o.last.1, .i .u32 o.last.2], .pv (.s o.name), .vec 8 (vE o.seen), .pv (.sl false 11 (o.vers.map A6))]) (.vec 15 (A4 o)) := Hd (by rfl) (Ep _)
noncomputable def Wd (f : Bool) (l : List Evt) (e : Evt) (k : Nat) : FS := mk [(6, .pv (.i .i64 k)), (0, .pv (.sl f 21 (l.map Bq))), (3, .p 3 0), (4, .p 4 0), (5, .p 5 0)] [(3, some (.var (.vec 21 (Bq e)))), (4, some (.var Ge)), (5, some (.var (.vec 15 (A4 (C6 l (l.take k) e)))))]
noncomputable def Wc (f : Bool) (l : List Evt) (e : Evt) (k : Nat) : FS := mk [(6, .pv (.i .i64 k)), (0, .os 900), (3, .p 3 0), (4, .p 4 0), (5, .p 5 0), (1000000, .os 900)] [(3, some (.var (.vec 21 (Bq e)))), (4, some (.var Ge)), (5, some (.var (.vec 15 (A4 (C6 l (l.take k) e))))), (900, some (.row 21 (l.map Bq)))]
set_option maxHeartbeats 8000000 in
theorem Zp {f : Bool} {l : List Evt} {rk : Evt → Nat} (e : Evt) {h d} (hE : EvsOk l rk) : FunOk Tryz.prog 15 [.pv (.sl f 21 (l.map Bq)), .vec 21 (Bq e)] h d (.vec 15 (A4 (C6 l l e))) [] := by
 refine Aw Af fn15 (by simp) rfl rfl fun F => ?_;have hn := hE.len;simp (disch := omega) only [ir15, Bb, Ae, Dq, Blk.ptr, go_sem];refine Aa (W0 (rk := rk) (l := l) (Aj e) rfl rfl hE) ?_;simp (disch := omega) only [go_sem];refine A0 Af (Wd f l e) (fun k => k ≤ l.length) (fun k => l.length - k) 0 (by simp) (Ak ?_ ?_) fun k hk => ?_
 · simp (disch := omega) only [go_sem]
 · simp (disch := omega) only [C6, List.take_zero, List.foldl_nil, Ge, go_sem];exact Aku ⟨Aj e, decide (e.kind = 2), Aj e, e.name, fun _ => 0, Cv l (Aj e) l⟩
 by_cases hlt : k < l.length
 · have hx : l[k]? = some l[k] := List.getElem?_eq_getElem hlt;have he : (l.map Bq)[k]? = some (Bq l[k]) := by rw [List.getElem?_map, hx]; rfl
   have ht := C4 hx;have hsn := Jh l (l.take k) e l[k];rw [← ht] at hsn;generalize l[k] = g at *;generalize hX : C6 l (l.take k) e = X at *;by_cases ho : Ax g = Aj e;rotate_left
   · have hp := Fs ho;have hs : D5 e X g = X := if_neg ho;rw [hs] at hsn;simp (disch := omega) only [Wd, hX, List.length_map, he, A9, Bb, Ag, Br, hp, go_sem];refine Ad (k + 1) _ _ rfl (by omega) (by omega) ?_ ?_
     · simp (disch := omega) only [go_sem]
     · simp (disch := omega) only [hsn, Ge, go_sem]
   have hp := Fq ho;by_cases h7 : g.kind = 7
   · by_cases hl7 : Ch X.last.1 X.last.2 g.rep g.seq = true
     · have hs : D5 e X g = { X with last := Aj g, name := g.name } := by unfold D5; rw [if_pos ho, if_pos h7, if_pos hl7]
       rw [hs] at hsn;have hsp := Adv X (Aj g);have hsp2 := Adu { X with last := Aj g } g.name;simp (disch := omega) only [Wd, hX, List.length_map, he, A9, Bb, Ag, Br, hp, Ae, h7, Jw, go_sem];refine Aa (F7 X.last.1 X.last.2 g.rep g.seq) ?_;simp (disch := omega) only [hl7, go_sem];refine N9 ?_;simp (disch := omega) only [List.length_map, he, Bb, Dq, hsp, hsp2, Ae, h7, go_sem];refine Ad (k + 1) _ _ rfl (by omega) (by omega) ?_ ?_
       · simp (disch := omega) only [go_sem]
       · simp (disch := omega) only [hsn, Ge, go_sem]
     · have hs : D5 e X g = X := by unfold D5; rw [if_pos ho, if_pos h7, if_neg hl7]
       rw [hs] at hsn;have hl7' : Ch X.last.1 X.last.2 g.rep g.seq = false := by simpa using hl7
       simp (disch := omega) only [Wd, hX, List.length_map, he, A9, Bb, Ag, Br, hp, Ae, h7, Jw, go_sem];refine Aa (F7 X.last.1 X.last.2 g.rep g.seq) ?_;simp (disch := omega) only [hl7', List.length_map, he, Ae, h7, go_sem];refine Ad (k + 1) _ _ rfl (by omega) (by omega) ?_ ?_
       · simp (disch := omega) only [go_sem]
       · simp (disch := omega) only [hsn, Ge, go_sem]
   by_cases h6 : g.kind = 6
   · have hs : D5 e X g = { X with seen := Cw X.seen (Bc g.dep g.rep g.seq) } := by unfold D5; rw [if_pos ho, if_neg h7, if_pos h6]
     rw [hs] at hsn;have hsp := Adt X (Cw X.seen (Bc g.dep g.rep g.seq));have hvl := Bh (Cw X.seen (Bc g.dep g.rep g.seq));simp (disch := omega) only [Wd, hX, List.length_map, he, A9, Bb, Ag, Br, hp, Ae, h7, h6, Qa, Fb, go_sem];refine Aa (E8 _ _ _) ?_;simp (disch := omega) only [go_sem];refine Aa (U9 _ _) ?_;simp (disch := omega) only [hsp, hvl, go_sem];refine Ad (k + 1) _ _ rfl (by omega) (by omega) ?_ ?_
     · simp (disch := omega) only [go_sem]
     · simp (disch := omega) only [hsn, Ge, go_sem]
   · have hs : D5 e X g = X := by unfold D5; rw [if_pos ho, if_neg h7, if_neg h6]
     rw [hs] at hsn;simp (disch := omega) only [Wd, hX, List.length_map, he, A9, Bb, Ag, Br, hp, Ae, h7, h6, go_sem];refine Ad (k + 1) _ _ rfl (by omega) (by omega) ?_ ?_
     · simp (disch := omega) only [go_sem]
     · simp (disch := omega) only [hsn, Ge, go_sem]
 obtain rfl : k = l.length := by omega
 have htk : l.take l.length = l := List.take_length;have hol := Ep (C6 l l e);simp (disch := omega) only [Wd, Ge, List.length_map, htk, Fc, hol, go_sem]
set_option maxHeartbeats 8000000 in
theorem Ahl {l : List Evt} {rk : Evt → Nat} (e : Evt) {h d} (hE : EvsOk l rk) (hg : h 900 = some (.row 21 (l.map Bq))) : FunOk Tryz.prog 15 [.os 900, .vec 21 (Bq e)] h d (.vec 15 (A4 (C6 l l e))) [.upd 900 (.row 21 (l.map Bq))] := by
 refine Vk (g := 900) Af fn15 (by simp) (by simp [A5, tn]) (by simp [A5, tn]) hg rfl (by simp [Blk.ptr, SV.kill]) rfl (fun _ => rfl) fun F => ?_;obtain ⟨f, hf⟩ : ∃ f : Bool, f = false := ⟨_, rfl⟩
 have hn := hE.len;simp (disch := omega) only [ir15, Bb, Ae, Dq, Blk.ptr, go_sem];refine Aa (W0 (rk := rk) (l := l) (Aj e) rfl rfl hE) ?_;simp (disch := omega) only [go_sem];refine A0 Af (Wc f l e) (fun k => k ≤ l.length) (fun k => l.length - k) 0 (by simp) (Ak ?_ ?_) fun k hk => ?_
 · simp (disch := omega) only [go_sem]
 · simp (disch := omega) only [C6, List.take_zero, List.foldl_nil, Ge, go_sem];exact Aku ⟨Aj e, decide (e.kind = 2), Aj e, e.name, fun _ => 0, Cv l (Aj e) l⟩
 by_cases hlt : k < l.length
 · have hx : l[k]? = some l[k] := List.getElem?_eq_getElem hlt;have he : (l.map Bq)[k]? = some (Bq l[k]) := by rw [List.getElem?_map, hx]; rfl
   have ht := C4 hx;have hsn := Jh l (l.take k) e l[k];rw [← ht] at hsn;generalize l[k] = g at *;generalize hX : C6 l (l.take k) e = X at *;by_cases ho : Ax g = Aj e;rotate_left
   · have hp := Fs ho;have hs : D5 e X g = X := if_neg ho;rw [hs] at hsn;simp (disch := omega) only [Wc, hX, List.length_map, he, A9, Bb, Ag, Br, hp, go_sem];refine Ad (k + 1) _ _ rfl (by omega) (by omega) ?_ ?_
     · simp (disch := omega) only [go_sem]
     · simp (disch := omega) only [hsn, Ge, go_sem]
   have hp := Fq ho;by_cases h7 : g.kind = 7
   · by_cases hl7 : Ch X.last.1 X.last.2 g.rep g.seq = true
     · have hs : D5 e X g = { X with last := Aj g, name := g.name } := by unfold D5; rw [if_pos ho, if_pos h7, if_pos hl7]
       rw [hs] at hsn;have hsp := Adv X (Aj g);have hsp2 := Adu { X with last := Aj g } g.name;simp (disch := omega) only [Wc, hX, List.length_map, he, A9, Bb, Ag, Br, hp, Ae, h7, Jw, go_sem];refine Aa (F7 X.last.1 X.last.2 g.rep g.seq) ?_;simp (disch := omega) only [hl7, go_sem];refine N9 ?_;simp (disch := omega) only [List.length_map, he, Bb, Dq, hsp, hsp2, Ae, h7, go_sem];refine Ad (k + 1) _ _ rfl (by omega) (by omega) ?_ ?_
       · simp (disch := omega) only [go_sem]
       · simp (disch := omega) only [hsn, Ge, go_sem]
     · have hs : D5 e X g = X := by unfold D5; rw [if_pos ho, if_pos h7, if_neg hl7]
       rw [hs] at hsn;have hl7' : Ch X.last.1 X.last.2 g.rep g.seq = false := by simpa using hl7
       simp (disch := omega) only [Wc, hX, List.length_map, he, A9, Bb, Ag, Br, hp, Ae, h7, Jw, go_sem];refine Aa (F7 X.last.1 X.last.2 g.rep g.seq) ?_;simp (disch := omega) only [hl7', List.length_map, he, Ae, h7, go_sem];refine Ad (k + 1) _ _ rfl (by omega) (by omega) ?_ ?_
       · simp (disch := omega) only [go_sem]
       · simp (disch := omega) only [hsn, Ge, go_sem]
   by_cases h6 : g.kind = 6
   · have hs : D5 e X g = { X with seen := Cw X.seen (Bc g.dep g.rep g.seq) } := by unfold D5; rw [if_pos ho, if_neg h7, if_pos h6]
     rw [hs] at hsn;have hsp := Adt X (Cw X.seen (Bc g.dep g.rep g.seq));have hvl := Bh (Cw X.seen (Bc g.dep g.rep g.seq));simp (disch := omega) only [Wc, hX, List.length_map, he, A9, Bb, Ag, Br, hp, Ae, h7, h6, Qa, Fb, go_sem];refine Aa (E8 _ _ _) ?_;simp (disch := omega) only [go_sem];refine Aa (U9 _ _) ?_;simp (disch := omega) only [hsp, hvl, go_sem];refine Ad (k + 1) _ _ rfl (by omega) (by omega) ?_ ?_
     · simp (disch := omega) only [go_sem]
     · simp (disch := omega) only [hsn, Ge, go_sem]
   · have hs : D5 e X g = X := by unfold D5; rw [if_pos ho, if_neg h7, if_neg h6]
     rw [hs] at hsn;simp (disch := omega) only [Wc, hX, List.length_map, he, A9, Bb, Ag, Br, hp, Ae, h7, h6, go_sem];refine Ad (k + 1) _ _ rfl (by omega) (by omega) ?_ ?_
     · simp (disch := omega) only [go_sem]
     · simp (disch := omega) only [hsn, Ge, go_sem]
 obtain rfl : k = l.length := by omega
 have htk : l.take l.length = l := List.take_length;have hol := Ep (C6 l l e);simp (disch := omega) only [Wc, Ge, List.length_map, htk, Fc, hol, go_sem];refine Bw ?_;simp (disch := omega) only [go_sem]
theorem Zo {l : List Evt} {rk : Evt → Nat} (e : Evt) {h d g} (hE : EvsOk l rk) (hg : h g = some (.row 21 (l.map Bq))) : FunOk Tryz.prog 15 [.os g, .vec 21 (Bq e)] h d (.vec 15 (A4 (C6 l l e))) [] :=
 FunOk.ioRow (fun h d hg => Ahl e hE hg) rfl rfl hg
def Hn (l : List Obj) (o : Obj) : List Obj := l.take (B0 l o.id) ++ o :: l.drop (B0 l o.id)
noncomputable def Du (l : List Evt) (p : St × Vc) (e : Evt) : St × Vc :=
 if e.kind = 1 ∨ e.kind = 2 then ({ p.1 with objs := Hn p.1.objs (C6 l l e) }, p.2)
 else if e.kind = 8 then (if Ho p.2 e.rep < e.seq then (I5 p.1 e, Bc p.2 e.rep e.seq) else p)
 else if e.kind = 9 then (P0 p.1 e, p.2)
 else p
noncomputable def F3 (l m : List Evt) : St × Vc := m.foldl (Du l) (⟨Dl l, [], Cz l l, fun _ => 0, fun _ => false⟩, fun _ => 0)
noncomputable def A8 (l : List Evt) : St := (F3 l l).1
theorem H3 (l m : List Evt) (e : Evt) : F3 l (m ++ [e]) = Du l (F3 l m) e := by simp [F3]
theorem Ae2 {l : List Obj} {o x : Obj} : x ∈ Hn l o ↔ x = o ∨ x ∈ l := by
 unfold Hn;simp only [List.mem_append, List.mem_cons];have : x ∈ l ↔ x ∈ l.take (B0 l o.id) ∨ x ∈ l.drop (B0 l o.id) := by rw [← List.mem_append, List.take_append_drop]
 rw [this];constructor
 · rintro (h | h | h)
   · exact .inr (.inl h)
   · exact .inl h
   · exact .inr (.inr h)
 · rintro (h | h | h)
   · exact .inr (.inl h)
   · exact .inl h
   · exact .inr (.inr h)
theorem Atp (l : List Obj) (o : Obj) : (Hn l o).length = l.length + 1 := by
 unfold Hn;simp only [List.length_append, List.length_take, List.length_cons, List.length_drop];have := Md l o.id; omega
theorem Ays (l : List Obj) (o : Obj) : (Hn l o).map obN = Ph (l.map obN) (obN o) := by
 unfold Hn Ph B0;simp [List.map_take, List.map_drop]; rfl
theorem Zi {l : List Obj} {o : Obj} (hs : El l) (hn : ∀ x ∈ l, x.id ≠ o.id) : El (Hn l o) := by
 unfold El; rw [Ays];refine Wh hs (F9.2 fun x hx => ?_);obtain ⟨u, hu, rfl⟩ := List.mem_map.1 hx;exact hn u hu
theorem I9 (l : List Evt) (e : Evt) : ∀ m : List Evt, (C6 l m e).id = Aj e := fun m => by
 unfold C6;generalize hq : (⟨Aj e, decide (e.kind = 2), Aj e, e.name, fun _ => 0, Cv l (Aj e) l⟩ : Obj) = o;have : o.id = Aj e := by rw [← hq]
 clear hq
 induction m generalizing o with
 | nil => exact this
 | cons f m ih =>
   simp only [List.foldl_cons];refine ih _ ?_;unfold D5;split
   · split
     · split <;> exact this
     · split <;> exact this
   · exact this
theorem R7 {l : List Evt} : ∀ (n : Nat) (m : List Evt), m.length = n → NodE m → El (F3 l m).1.objs ∧ (F3 l m).1.objs.length ≤ n ∧ ∀ o, o ∈ (F3 l m).1.objs ↔ ∃ e ∈ m, (e.kind = 1 ∨ e.kind = 2) ∧ o = C6 l l e
 | 0, m, h, _ => by obtain rfl := List.eq_nil_of_length_eq_zero h; exact ⟨List.Pairwise.nil, by simp [F3], by simp [F3]⟩
 | n + 1, m, h, hn => by
   have hne : m ≠ [] := fun e => by subst e; simp at h
   have e1 := (List.dropLast_concat_getLast hne).symm;have hn' : NodE m.dropLast := by unfold NodE at *; rw [List.map_dropLast]; exact hn.sublist (List.dropLast_sublist _)
   obtain ⟨h1, h2, h3⟩ := R7 (l := l) n m.dropLast (by simp [h]) hn';rw [e1] at hn ⊢;rw [H3];generalize m.getLast hne = e at *;generalize m.dropLast = m' at *;have grow : ∀ o : Obj, ((∃ f ∈ m' ++ [e], (f.kind = 1 ∨ f.kind = 2) ∧ o = C6 l l f) ↔ (∃ f ∈ m', (f.kind = 1 ∨ f.kind = 2) ∧ o = C6 l l f) ∨ ((e.kind = 1 ∨ e.kind = 2) ∧ o = C6 l l e)) := fun o => by
    simp only [List.mem_append, List.mem_singleton];constructor
    · rintro ⟨f, hf | rfl, h⟩
      · exact .inl ⟨f, hf, h⟩
      · exact .inr h
    · rintro (⟨f, hf, h⟩ | h)
      · exact ⟨f, .inl hf, h⟩
      · exact ⟨e, .inr rfl, h⟩
   by_cases h12 : e.kind = 1 ∨ e.kind = 2
   · have hS : (Du l (F3 l m') e).1.objs = Hn (F3 l m').1.objs (C6 l l e) := by unfold Du; rw [if_pos h12]
     rw [hS];have hnew : ∀ x ∈ (F3 l m').1.objs, x.id ≠ (C6 l l e).id := fun x hx => by
      obtain ⟨f, hf, _, rfl⟩ := (h3 x).1 hx;rw [I9, I9];unfold NodE at hn;rw [List.map_append, List.nodup_append] at hn;exact hn.2.2 (Aj f) (List.mem_map_of_mem hf) (Aj e) (by simp)
     refine ⟨Zi h1 hnew, by rw [Atp]; omega, fun o => ?_⟩;rw [Ae2, h3, grow];constructor
     · rintro (h | h)
       · exact .inr ⟨h12, h⟩
       · exact .inl h
     · rintro (h | h)
       · exact .inr h
       · exact .inl h.2
   · have hS : (Du l (F3 l m') e).1.objs = (F3 l m').1.objs := by
      unfold Du; rw [if_neg h12];split
      · split <;> rfl
      · split <;> rfl
     rw [hS];refine ⟨h1, by omega, fun o => ?_⟩;rw [h3, grow];exact ⟨.inl, fun h => h.resolve_right fun q => h12 q.1⟩
theorem Age (l m : List Evt) : (F3 l m).1.ents = Cz l l ∧ (F3 l m).1.known = Dl l := by
 unfold F3;generalize hq : ((⟨Dl l, [], Cz l l, fun _ => 0, fun _ => false⟩ : St), (fun _ => 0 : Vc)) = p;have : p.1.ents = Cz l l ∧ p.1.known = Dl l := by rw [← hq]; exact ⟨rfl, rfl⟩
 clear hq
 induction m generalizing p with
 | nil => exact this
 | cons f m ih =>
   simp only [List.foldl_cons];refine ih _ ?_;unfold Du;split
   · exact this
   · split
     · split
       · exact this
       · exact this
     · split <;> exact this
noncomputable def Ub (f : Bool) (l : List Evt) (k : Nat) : FS := mk [(5, .pv (.i .i64 k)), (0, .pv (.sl f 21 (l.map Bq))), (2, .p 2 0), (3, .p 3 0), (4, .p 4 0)] [(2, some (.var Bp)), (3, some (.var (.agg (Bi (F3 l (l.take k)).1)))), (4, some (.var (.vec 8 (vE (F3 l (l.take k)).2))))]
noncomputable def Ua (f : Bool) (l : List Evt) (k : Nat) : FS := mk [(5, .pv (.i .i64 k)), (0, .os 900), (2, .p 2 0), (3, .p 3 0), (4, .p 4 0), (1000000, .os 900)] [(2, some (.var Bp)), (3, some (.var (.agg (Bi (F3 l (l.take k)).1)))), (4, some (.var (.vec 8 (vE (F3 l (l.take k)).2)))), (900, some (.row 21 (l.map Bq)))]
noncomputable def Ze (f : Bool) (l : List Evt) (k : Nat) (e : Evt) (S : St) (v : Vc) (o : Obj) (j : Nat) : FS := mk [(8, .pv (.i .i64 j)), (7, .p 7 0), (6, .p 6 0), (5, .pv (.i .i64 k)), (0, .pv (.sl f 21 (l.map Bq))), (2, .p 2 0), (3, .p 3 0), (4, .p 4 0)] [(7, some (.var (.vec 15 (A4 o)))), (6, some (.var (.vec 21 (Bq e)))), (2, some (.var Bp)), (3, some (.var (.agg (Bi S)))), (4, some (.var (.vec 8 (vE v))))]
noncomputable def Zd (f : Bool) (l : List Evt) (k : Nat) (e : Evt) (S : St) (v : Vc) (o : Obj) (j : Nat) : FS := mk [(8, .pv (.i .i64 j)), (7, .p 7 0), (6, .p 6 0), (5, .pv (.i .i64 k)), (0, .os 900), (2, .p 2 0), (3, .p 3 0), (4, .p 4 0), (1000000, .os 900)] [(7, some (.var (.vec 15 (A4 o)))), (6, some (.var (.vec 21 (Bq e)))), (2, some (.var Bp)), (3, some (.var (.agg (Bi S)))), (4, some (.var (.vec 8 (vE v)))), (900, some (.row 21 (l.map Bq)))]
theorem Ou {l : List Obj} {i : Bo} {k : Nat} {x : Obj} (hk : k < B0 l i) (hx : l[k]? = some x) : Ic x.id i = true := by
 obtain ⟨y, h1, h2⟩ := Ars (l := l.map obN) hk;rw [Vi hx] at h1; cases h1; exact h2
theorem Q6 {l : List Obj} (hs : El l) {i : Bo} {k : Nat} {x : Obj} (hk : B0 l i ≤ k) (hx : l[k]? = some x) : ¬ Ic x.id i = true := A32 (l := l.map obN) hs hk (Vi hx)
set_option maxHeartbeats 16000000 in
theorem Asc {f : Bool} {l : List Evt} {rk : Evt → Nat} {h d} (hE : EvsOk l rk) (hB : ∀ e ∈ l, 1 ≤ e.rep ∧ e.rep ≤ 8) : FunOk Tryz.prog 6 [.pv (.sl f 21 (l.map Bq))] h d (.agg (Bi (A8 l))) [] := by
 refine Aw Af fn6 (by simp) rfl rfl fun F => ?_;have hn := hE.len;have hevs : ∀ e ∈ l, ev e := fun e he => (hE.ev e he).1;simp (disch := omega) only [ir6, Blk.ptr, go_sem];refine Aa (Ako (l := l) rfl rfl (by omega)) ?_;simp (disch := omega) only [go_sem];refine Aa (Zq (l := l) rfl rfl (by omega) hevs) ?_;simp (disch := omega) only [go_sem];refine A0 Af (Ub f l) (fun k => k ≤ l.length) (fun k => l.length - k) 0 (by simp) (Ak ?_ ?_) fun k hk => ?_
 · simp (disch := omega) only [go_sem]
 · simp (disch := omega) only [F3, List.take_zero, List.foldl_nil, Bp, go_sem];exact ⟨Aj8 (s := ⟨Dl l, [], Cz l l, fun _ => 0, fun _ => false⟩) (.inl rfl) (.inr rfl) trivial (.refl _), rfl⟩
 by_cases hlt : k < l.length
 · have hx : l[k]? = some l[k] := List.getElem?_eq_getElem hlt;have he : (l.map Bq)[k]? = some (Bq l[k]) := by rw [List.getElem?_map, hx]; rfl
   have ht := C4 hx;have hsn := H3 l (l.take k) l[k];have hlk : (l.take k).length ≤ 400 := by simp; omega
   have hnd := hE.nod.take (k + 1);rw [← ht] at hsn;rw [ht] at hnd;have hrep := hB _ (List.getElem_mem hlt);generalize l[k] = e at *;obtain ⟨hso, hol, hom⟩ := R7 (l := l) _ (l.take k) rfl (hE.nod.take k);have hel := Ac e;generalize hX : F3 l (l.take k) = X at *;obtain ⟨S, v⟩ := X;simp only at hso hol hom;by_cases h12 : e.kind = 1 ∨ e.kind = 2
   · have hs : Du l (S, v) e = ({ S with objs := Hn S.objs (C6 l l e) }, v) := by unfold Du; rw [if_pos h12]
     rw [hs] at hsn;have n8 : ¬ e.kind = 8 := by omega
     have n9 : ¬ e.kind = 9 := by omega
     have hoe := Ep (C6 l l e);have hoi := I9 l e l;have hnew : ∀ x ∈ S.objs, x.id ≠ Aj e := fun x hx => by
      obtain ⟨f, hf, _, rfl⟩ := (hom x).1 hx;rw [I9];unfold NodE at hnd;rw [List.map_append, List.nodup_append] at hnd;exact hnd.2.2 (Aj f) (List.mem_map_of_mem hf) (Aj e) (by simp)
     rcases h12 with h1 | h2
     · simp (disch := omega) only [Ub, hX, List.length_map, he, Bx, hel, Ae, h1, go_sem];refine Aa (Zp e hE) ?_;simp (disch := omega) only [hoe, Bi, A2, List.length_map, Bp, go_sem];generalize hO : C6 l l e = o at *;have hp0 := Md S.objs (Aj e);refine A0 Af (Ze f l k e S v o) (fun j => B0 S.objs (Aj e) ≤ j ∧ j ≤ S.objs.length) (fun j => j) S.objs.length ⟨hp0, Nat.le_refl _⟩ (Ak ?_ ?_) fun j hj => ?_
       · simp (disch := omega) only [go_sem]
       · simp (disch := omega) only [Bi, A2, Bp, go_sem]
       obtain ⟨hj1, hj2⟩ := hj;by_cases hj0 : j = 0
       · subst hj0;have hjq : B0 S.objs (Aj e) = 0 := by omega
         simp (disch := omega) only [Ze, Bi, A2, Bp, go_sem];have hT : (S.objs.map A4).take S.objs.length = S.objs.map A4 := List.take_of_length_le (by simp);have hD : ((S.objs.map A4).drop 0).length = S.objs.length - 0 := by simp
         have hD2 : ((S.objs.map A4).take 0).length = 0 := by rw [List.length_take, List.length_map]; omega
         have hI : (S.objs.map A4).take 0 ++ A4 o :: S.objs.map A4 = (Hn S.objs o).map A4 := by
          unfold Hn; rw [hoi, hjq]; simp [List.map_take, List.map_drop]
         refine Jc ?_;simp (disch := omega) only [List.length_map, Fc, hoe, hT, hD, hD2, Ae, n8, n9, go_sem];refine ⟨k + 1, by omega, by omega, Ix 70 rfl (Ak ?_ ?_)⟩
         · simp (disch := omega) only [go_sem]
         · simp (disch := omega) only [hI, hsn, Bi, A2, Bp, go_sem]
       · have hjx : j - 1 < S.objs.length := by omega
         have hx3 : S.objs[j - 1]? = some S.objs[j - 1] := List.getElem?_eq_getElem hjx;have he3 : (S.objs.map A4)[j - 1]? = some (A4 S.objs[j - 1]) := by rw [List.getElem?_map, hx3]; rfl
         have hmx := List.getElem_mem hjx;have ejn : ((j : Int) - 1).toNat = j - 1 := by omega
         have hjp : (0 : Int) < j := by omega
         generalize S.objs[j - 1] = x at *;simp (disch := omega) only [Ze, Bi, A2, Bp, hjp, List.length_map, ejn, he3, Jx, go_sem];refine Aa (F7 o.id.1 o.id.2 x.id.1 x.id.2) ?_;by_cases hlx : Ch o.id.1 o.id.2 x.id.1 x.id.2 = true
         · simp (disch := omega) only [hlx, go_sem];refine Ad (j - 1) _ _ rfl ⟨?_, by omega⟩ (by omega) ?_ ?_
           · have : ¬ B0 S.objs (Aj e) = j := fun q => Nw (Ou (i := Aj e) (by omega) hx3) (by rw [← hoi]; exact hlx);omega
           · simp (disch := omega) only [go_sem]
           · simp (disch := omega) only [Bi, A2, Bp, go_sem]
         · have hlx' : Ch o.id.1 o.id.2 x.id.1 x.id.2 = false := by simpa using hlx
           have hjq : B0 S.objs (Aj e) = j := by
            have h3 : Ic x.id (Aj e) = true := by
             rw [hoi] at hlx;exact Ko hlx (fun q => hnew x hmx q.symm)
            have : ¬ B0 S.objs (Aj e) ≤ j - 1 := fun q => Q6 hso q hx3 h3;omega
           simp (disch := omega) only [hlx', go_sem];have hT : (S.objs.map A4).take S.objs.length = S.objs.map A4 := List.take_of_length_le (by simp);have hD : ((S.objs.map A4).drop j).length = S.objs.length - j := by simp
           have hD2 : ((S.objs.map A4).take j).length = j := by rw [List.length_take, List.length_map]; omega
           have hI : (S.objs.map A4).take j ++ A4 o :: (S.objs.map A4).drop j = (Hn S.objs o).map A4 := by
            unfold Hn; rw [hoi, hjq]; simp [List.map_take, List.map_drop]
           refine Jc ?_;simp (disch := omega) only [List.length_map, Fc, hoe, hT, hD, hD2, Ae, n8, n9, go_sem];refine ⟨k + 1, by omega, by omega, Ix 70 rfl (Ak ?_ ?_)⟩
           · simp (disch := omega) only [go_sem]
           · simp (disch := omega) only [hI, hsn, Bi, A2, Bp, go_sem]
     · have n1 : ¬ e.kind = 1 := by omega
       simp (disch := omega) only [Ub, hX, List.length_map, he, Bx, hel, Ae, n1, h2, go_sem];refine Aa (Zp e hE) ?_;simp (disch := omega) only [hoe, Bi, A2, List.length_map, Bp, go_sem];generalize hO : C6 l l e = o at *;have hp0 := Md S.objs (Aj e);refine A0 Af (Ze f l k e S v o) (fun j => B0 S.objs (Aj e) ≤ j ∧ j ≤ S.objs.length) (fun j => j) S.objs.length ⟨hp0, Nat.le_refl _⟩ (Ak ?_ ?_) fun j hj => ?_
       · simp (disch := omega) only [go_sem]
       · simp (disch := omega) only [Bi, A2, Bp, go_sem]
       obtain ⟨hj1, hj2⟩ := hj;by_cases hj0 : j = 0
       · subst hj0;have hjq : B0 S.objs (Aj e) = 0 := by omega
         simp (disch := omega) only [Ze, Bi, A2, Bp, go_sem];have hT : (S.objs.map A4).take S.objs.length = S.objs.map A4 := List.take_of_length_le (by simp);have hD : ((S.objs.map A4).drop 0).length = S.objs.length - 0 := by simp
         have hD2 : ((S.objs.map A4).take 0).length = 0 := by rw [List.length_take, List.length_map]; omega
         have hI : (S.objs.map A4).take 0 ++ A4 o :: S.objs.map A4 = (Hn S.objs o).map A4 := by
          unfold Hn; rw [hoi, hjq]; simp [List.map_take, List.map_drop]
         refine Jc ?_;simp (disch := omega) only [List.length_map, Fc, hoe, hT, hD, hD2, Ae, n8, n9, go_sem];refine ⟨k + 1, by omega, by omega, Ix 70 rfl (Ak ?_ ?_)⟩
         · simp (disch := omega) only [go_sem]
         · simp (disch := omega) only [hI, hsn, Bi, A2, Bp, go_sem]
       · have hjx : j - 1 < S.objs.length := by omega
         have hx3 : S.objs[j - 1]? = some S.objs[j - 1] := List.getElem?_eq_getElem hjx;have he3 : (S.objs.map A4)[j - 1]? = some (A4 S.objs[j - 1]) := by rw [List.getElem?_map, hx3]; rfl
         have hmx := List.getElem_mem hjx;have ejn : ((j : Int) - 1).toNat = j - 1 := by omega
         have hjp : (0 : Int) < j := by omega
         generalize S.objs[j - 1] = x at *;simp (disch := omega) only [Ze, Bi, A2, Bp, hjp, List.length_map, ejn, he3, Jx, go_sem];refine Aa (F7 o.id.1 o.id.2 x.id.1 x.id.2) ?_;by_cases hlx : Ch o.id.1 o.id.2 x.id.1 x.id.2 = true
         · simp (disch := omega) only [hlx, go_sem];refine Ad (j - 1) _ _ rfl ⟨?_, by omega⟩ (by omega) ?_ ?_
           · have : ¬ B0 S.objs (Aj e) = j := fun q => Nw (Ou (i := Aj e) (by omega) hx3) (by rw [← hoi]; exact hlx);omega
           · simp (disch := omega) only [go_sem]
           · simp (disch := omega) only [Bi, A2, Bp, go_sem]
         · have hlx' : Ch o.id.1 o.id.2 x.id.1 x.id.2 = false := by simpa using hlx
           have hjq : B0 S.objs (Aj e) = j := by
            have h3 : Ic x.id (Aj e) = true := by
             rw [hoi] at hlx;exact Ko hlx (fun q => hnew x hmx q.symm)
            have : ¬ B0 S.objs (Aj e) ≤ j - 1 := fun q => Q6 hso q hx3 h3;omega
           simp (disch := omega) only [hlx', go_sem];have hT : (S.objs.map A4).take S.objs.length = S.objs.map A4 := List.take_of_length_le (by simp);have hD : ((S.objs.map A4).drop j).length = S.objs.length - j := by simp
           have hD2 : ((S.objs.map A4).take j).length = j := by rw [List.length_take, List.length_map]; omega
           have hI : (S.objs.map A4).take j ++ A4 o :: (S.objs.map A4).drop j = (Hn S.objs o).map A4 := by
            unfold Hn; rw [hoi, hjq]; simp [List.map_take, List.map_drop]
           refine Jc ?_;simp (disch := omega) only [List.length_map, Fc, hoe, hT, hD, hD2, Ae, n8, n9, go_sem];refine ⟨k + 1, by omega, by omega, Ix 70 rfl (Ak ?_ ?_)⟩
           · simp (disch := omega) only [go_sem]
           · simp (disch := omega) only [hI, hsn, Bi, A2, Bp, go_sem]
   have n1 : ¬ e.kind = 1 := fun h => h12 (.inl h);have n2 : ¬ e.kind = 2 := fun h => h12 (.inr h);obtain ⟨r, hr8, hre⟩ : ∃ r : Nat, r < 8 ∧ e.rep - 1 = r := ⟨(e.rep - 1).toNat, by omega, by omega⟩
   by_cases h8 : e.kind = 8
   · have n9 : ¬ e.kind = 9 := by omega
     by_cases hq : Ho v e.rep < e.seq
     · have hs : Du l (S, v) e = (I5 S e, Bc v e.rep e.seq) := by unfold Du; rw [if_neg h12, if_pos h8]; exact if_pos hq
       rw [hs] at hsn;have hS : I5 S e = { S with wards := E7 S.wards r e.ward } := by unfold I5; rw [hre]; rfl
       rw [hS] at hsn;have hsp := Wg S hr8 e.ward (.sl false 15 (S.objs.map A4)) (.sl false 15 (S.ents.map Bj));have hq' : ((Ho v e.rep : Nat) : Int) < (e.seq : Int) := by omega
       have hvl := Bh (Bc v e.rep e.seq);simp (disch := omega) only [Ub, hX, List.length_map, he, Bx, hel, Ae, n1, n2, h8, Db, Fx, go_sem];refine Aa (P6 v e.rep) ?_;simp (disch := omega) only [hq', Bb, go_sem];refine Aa (E8 _ _ _) ?_;simp (disch := omega) only [hvl, Db, hre, Vd, Bi, A2, hsp, Ae, h8, go_sem];refine Ad (k + 1) _ _ rfl (by omega) (by omega) ?_ ?_
       · simp (disch := omega) only [go_sem]
       · simp (disch := omega) only [hsn, Bp, go_sem];exact ⟨Aa5 { S with wards := E7 S.wards r e.ward }, rfl⟩
     · have hs : Du l (S, v) e = (S, v) := by unfold Du; rw [if_neg h12, if_pos h8]; exact if_neg hq
       rw [hs] at hsn;have hq' : ¬ ((Ho v e.rep : Nat) : Int) < (e.seq : Int) := by omega
       simp (disch := omega) only [Ub, hX, List.length_map, he, Bx, hel, Ae, n1, n2, h8, Db, Fx, go_sem];refine Aa (P6 v e.rep) ?_;simp (disch := omega) only [hq', Ae, h8, go_sem];refine Ad (k + 1) _ _ rfl (by omega) (by omega) ?_ ?_
       · simp (disch := omega) only [go_sem]
       · simp (disch := omega) only [hsn, Bp, Bi, A2, go_sem]
   by_cases h9 : e.kind = 9
   · have hs : Du l (S, v) e = (P0 S e, v) := by unfold Du; rw [if_neg h12, if_neg h8, if_pos h9]
     rw [hs] at hsn;have hS : P0 S e = { S with ret := E7 S.ret r true } := by unfold P0; rw [hre]; rfl
     rw [hS] at hsn;have hsp := Abi S hr8 true (.sl false 15 (S.objs.map A4)) (.sl false 15 (S.ents.map Bj));simp (disch := omega) only [Ub, hX, List.length_map, he, Bx, hel, Ae, n1, n2, h8, h9, Db, hre, Bi, A2, hsp, go_sem];refine Ad (k + 1) _ _ rfl (by omega) (by omega) ?_ ?_
     · simp (disch := omega) only [go_sem]
     · simp (disch := omega) only [hsn, Bp, go_sem];exact Aa5 { S with ret := E7 S.ret r true }
   · have hs : Du l (S, v) e = (S, v) := by unfold Du; rw [if_neg h12, if_neg h8, if_neg h9]
     rw [hs] at hsn;simp (disch := omega) only [Ub, hX, List.length_map, he, Bx, hel, Ae, n1, n2, h8, h9, go_sem];refine Ad (k + 1) _ _ rfl (by omega) (by omega) ?_ ?_
     · simp (disch := omega) only [go_sem]
     · simp (disch := omega) only [hsn, Bp, Bi, A2, go_sem]
 obtain rfl : k = l.length := by omega
 have htk : l.take l.length = l := List.take_length;simp (disch := omega) only [Ub, Bp, Bi, A2, List.length_map, htk, A8, go_sem]
set_option maxHeartbeats 16000000 in
theorem Ana {l : List Evt} {rk : Evt → Nat} {h d} (hE : EvsOk l rk) (hB : ∀ e ∈ l, 1 ≤ e.rep ∧ e.rep ≤ 8) (hg : h 900 = some (.row 21 (l.map Bq))) : FunOk Tryz.prog 6 [.os 900] h d (.agg (Bi (A8 l))) [.upd 900 (.row 21 (l.map Bq))] := by
 refine Vk (g := 900) Af fn6 (by simp) (by simp [A5, tn]) (by simp [A5, tn]) hg rfl (by simp [Blk.ptr, SV.kill]) rfl (fun _ => rfl) fun F => ?_;obtain ⟨f, hf⟩ : ∃ f : Bool, f = false := ⟨_, rfl⟩
 have hn := hE.len;have hevs : ∀ e ∈ l, ev e := fun e he => (hE.ev e he).1;simp (disch := omega) only [ir6, Blk.ptr, go_sem];refine Aa (Ako (l := l) rfl rfl (by omega)) ?_;simp (disch := omega) only [go_sem];refine Aa (Zq (l := l) rfl rfl (by omega) hevs) ?_;simp (disch := omega) only [go_sem];refine A0 Af (Ua f l) (fun k => k ≤ l.length) (fun k => l.length - k) 0 (by simp) (Ak ?_ ?_) fun k hk => ?_
 · simp (disch := omega) only [go_sem]
 · simp (disch := omega) only [F3, List.take_zero, List.foldl_nil, Bp, go_sem];exact ⟨Aj8 (s := ⟨Dl l, [], Cz l l, fun _ => 0, fun _ => false⟩) (.inl rfl) (.inr rfl) trivial (.refl _), rfl⟩
 by_cases hlt : k < l.length
 · have hx : l[k]? = some l[k] := List.getElem?_eq_getElem hlt;have he : (l.map Bq)[k]? = some (Bq l[k]) := by rw [List.getElem?_map, hx]; rfl
   have ht := C4 hx;have hsn := H3 l (l.take k) l[k];have hlk : (l.take k).length ≤ 400 := by simp; omega
   have hnd := hE.nod.take (k + 1);rw [← ht] at hsn;rw [ht] at hnd;have hrep := hB _ (List.getElem_mem hlt);generalize l[k] = e at *;obtain ⟨hso, hol, hom⟩ := R7 (l := l) _ (l.take k) rfl (hE.nod.take k);have hel := Ac e;generalize hX : F3 l (l.take k) = X at *;obtain ⟨S, v⟩ := X;simp only at hso hol hom;by_cases h12 : e.kind = 1 ∨ e.kind = 2
   · have hs : Du l (S, v) e = ({ S with objs := Hn S.objs (C6 l l e) }, v) := by unfold Du; rw [if_pos h12]
     rw [hs] at hsn;have n8 : ¬ e.kind = 8 := by omega
     have n9 : ¬ e.kind = 9 := by omega
     have hoe := Ep (C6 l l e);have hoi := I9 l e l;have hnew : ∀ x ∈ S.objs, x.id ≠ Aj e := fun x hx => by
      obtain ⟨f, hf, _, rfl⟩ := (hom x).1 hx;rw [I9];unfold NodE at hnd;rw [List.map_append, List.nodup_append] at hnd;exact hnd.2.2 (Aj f) (List.mem_map_of_mem hf) (Aj e) (by simp)
     rcases h12 with h1 | h2
     · simp (disch := omega) only [Ua, hX, List.length_map, he, Bx, hel, Ae, h1, go_sem];refine Aa (Zo e hE rfl) ?_;simp (disch := omega) only [hoe, Bi, A2, List.length_map, Bp, go_sem];generalize hO : C6 l l e = o at *;have hp0 := Md S.objs (Aj e);refine A0 Af (Zd f l k e S v o) (fun j => B0 S.objs (Aj e) ≤ j ∧ j ≤ S.objs.length) (fun j => j) S.objs.length ⟨hp0, Nat.le_refl _⟩ (Ak ?_ ?_) fun j hj => ?_
       · simp (disch := omega) only [go_sem]
       · simp (disch := omega) only [Bi, A2, Bp, go_sem]
       obtain ⟨hj1, hj2⟩ := hj;by_cases hj0 : j = 0
       · subst hj0;have hjq : B0 S.objs (Aj e) = 0 := by omega
         simp (disch := omega) only [Zd, Bi, A2, Bp, go_sem];have hT : (S.objs.map A4).take S.objs.length = S.objs.map A4 := List.take_of_length_le (by simp);have hD : ((S.objs.map A4).drop 0).length = S.objs.length - 0 := by simp
         have hD2 : ((S.objs.map A4).take 0).length = 0 := by rw [List.length_take, List.length_map]; omega
         have hI : (S.objs.map A4).take 0 ++ A4 o :: S.objs.map A4 = (Hn S.objs o).map A4 := by
          unfold Hn; rw [hoi, hjq]; simp [List.map_take, List.map_drop]
         refine Jc ?_;simp (disch := omega) only [List.length_map, Fc, hoe, hT, hD, hD2, Ae, n8, n9, go_sem];refine ⟨k + 1, by omega, by omega, Ix 70 rfl (Ak ?_ ?_)⟩
         · simp (disch := omega) only [go_sem]
         · simp (disch := omega) only [hI, hsn, Bi, A2, Bp, go_sem]
       · have hjx : j - 1 < S.objs.length := by omega
         have hx3 : S.objs[j - 1]? = some S.objs[j - 1] := List.getElem?_eq_getElem hjx;have he3 : (S.objs.map A4)[j - 1]? = some (A4 S.objs[j - 1]) := by rw [List.getElem?_map, hx3]; rfl
         have hmx := List.getElem_mem hjx;have ejn : ((j : Int) - 1).toNat = j - 1 := by omega
         have hjp : (0 : Int) < j := by omega
         generalize S.objs[j - 1] = x at *;simp (disch := omega) only [Zd, Bi, A2, Bp, hjp, List.length_map, ejn, he3, Jx, go_sem];refine Aa (F7 o.id.1 o.id.2 x.id.1 x.id.2) ?_;by_cases hlx : Ch o.id.1 o.id.2 x.id.1 x.id.2 = true
         · simp (disch := omega) only [hlx, go_sem];refine Ad (j - 1) _ _ rfl ⟨?_, by omega⟩ (by omega) ?_ ?_
           · have : ¬ B0 S.objs (Aj e) = j := fun q => Nw (Ou (i := Aj e) (by omega) hx3) (by rw [← hoi]; exact hlx);omega
           · simp (disch := omega) only [go_sem]
           · simp (disch := omega) only [Bi, A2, Bp, go_sem]
         · have hlx' : Ch o.id.1 o.id.2 x.id.1 x.id.2 = false := by simpa using hlx
           have hjq : B0 S.objs (Aj e) = j := by
            have h3 : Ic x.id (Aj e) = true := by
             rw [hoi] at hlx;exact Ko hlx (fun q => hnew x hmx q.symm)
            have : ¬ B0 S.objs (Aj e) ≤ j - 1 := fun q => Q6 hso q hx3 h3;omega
           simp (disch := omega) only [hlx', go_sem];have hT : (S.objs.map A4).take S.objs.length = S.objs.map A4 := List.take_of_length_le (by simp);have hD : ((S.objs.map A4).drop j).length = S.objs.length - j := by simp
           have hD2 : ((S.objs.map A4).take j).length = j := by rw [List.length_take, List.length_map]; omega
           have hI : (S.objs.map A4).take j ++ A4 o :: (S.objs.map A4).drop j = (Hn S.objs o).map A4 := by
            unfold Hn; rw [hoi, hjq]; simp [List.map_take, List.map_drop]
           refine Jc ?_;simp (disch := omega) only [List.length_map, Fc, hoe, hT, hD, hD2, Ae, n8, n9, go_sem];refine ⟨k + 1, by omega, by omega, Ix 70 rfl (Ak ?_ ?_)⟩
           · simp (disch := omega) only [go_sem]
           · simp (disch := omega) only [hI, hsn, Bi, A2, Bp, go_sem]
     · have n1 : ¬ e.kind = 1 := by omega
       simp (disch := omega) only [Ua, hX, List.length_map, he, Bx, hel, Ae, n1, h2, go_sem];refine Aa (Zo e hE rfl) ?_;simp (disch := omega) only [hoe, Bi, A2, List.length_map, Bp, go_sem];generalize hO : C6 l l e = o at *;have hp0 := Md S.objs (Aj e);refine A0 Af (Zd f l k e S v o) (fun j => B0 S.objs (Aj e) ≤ j ∧ j ≤ S.objs.length) (fun j => j) S.objs.length ⟨hp0, Nat.le_refl _⟩ (Ak ?_ ?_) fun j hj => ?_
       · simp (disch := omega) only [go_sem]
       · simp (disch := omega) only [Bi, A2, Bp, go_sem]
       obtain ⟨hj1, hj2⟩ := hj;by_cases hj0 : j = 0
       · subst hj0;have hjq : B0 S.objs (Aj e) = 0 := by omega
         simp (disch := omega) only [Zd, Bi, A2, Bp, go_sem];have hT : (S.objs.map A4).take S.objs.length = S.objs.map A4 := List.take_of_length_le (by simp);have hD : ((S.objs.map A4).drop 0).length = S.objs.length - 0 := by simp
         have hD2 : ((S.objs.map A4).take 0).length = 0 := by rw [List.length_take, List.length_map]; omega
         have hI : (S.objs.map A4).take 0 ++ A4 o :: S.objs.map A4 = (Hn S.objs o).map A4 := by
          unfold Hn; rw [hoi, hjq]; simp [List.map_take, List.map_drop]
         refine Jc ?_;simp (disch := omega) only [List.length_map, Fc, hoe, hT, hD, hD2, Ae, n8, n9, go_sem];refine ⟨k + 1, by omega, by omega, Ix 70 rfl (Ak ?_ ?_)⟩
         · simp (disch := omega) only [go_sem]
         · simp (disch := omega) only [hI, hsn, Bi, A2, Bp, go_sem]
       · have hjx : j - 1 < S.objs.length := by omega
         have hx3 : S.objs[j - 1]? = some S.objs[j - 1] := List.getElem?_eq_getElem hjx;have he3 : (S.objs.map A4)[j - 1]? = some (A4 S.objs[j - 1]) := by rw [List.getElem?_map, hx3]; rfl
         have hmx := List.getElem_mem hjx;have ejn : ((j : Int) - 1).toNat = j - 1 := by omega
         have hjp : (0 : Int) < j := by omega
         generalize S.objs[j - 1] = x at *;simp (disch := omega) only [Zd, Bi, A2, Bp, hjp, List.length_map, ejn, he3, Jx, go_sem];refine Aa (F7 o.id.1 o.id.2 x.id.1 x.id.2) ?_;by_cases hlx : Ch o.id.1 o.id.2 x.id.1 x.id.2 = true
         · simp (disch := omega) only [hlx, go_sem];refine Ad (j - 1) _ _ rfl ⟨?_, by omega⟩ (by omega) ?_ ?_
           · have : ¬ B0 S.objs (Aj e) = j := fun q => Nw (Ou (i := Aj e) (by omega) hx3) (by rw [← hoi]; exact hlx);omega
           · simp (disch := omega) only [go_sem]
           · simp (disch := omega) only [Bi, A2, Bp, go_sem]
         · have hlx' : Ch o.id.1 o.id.2 x.id.1 x.id.2 = false := by simpa using hlx
           have hjq : B0 S.objs (Aj e) = j := by
            have h3 : Ic x.id (Aj e) = true := by
             rw [hoi] at hlx;exact Ko hlx (fun q => hnew x hmx q.symm)
            have : ¬ B0 S.objs (Aj e) ≤ j - 1 := fun q => Q6 hso q hx3 h3;omega
           simp (disch := omega) only [hlx', go_sem];have hT : (S.objs.map A4).take S.objs.length = S.objs.map A4 := List.take_of_length_le (by simp);have hD : ((S.objs.map A4).drop j).length = S.objs.length - j := by simp
           have hD2 : ((S.objs.map A4).take j).length = j := by rw [List.length_take, List.length_map]; omega
           have hI : (S.objs.map A4).take j ++ A4 o :: (S.objs.map A4).drop j = (Hn S.objs o).map A4 := by
            unfold Hn; rw [hoi, hjq]; simp [List.map_take, List.map_drop]
           refine Jc ?_;simp (disch := omega) only [List.length_map, Fc, hoe, hT, hD, hD2, Ae, n8, n9, go_sem];refine ⟨k + 1, by omega, by omega, Ix 70 rfl (Ak ?_ ?_)⟩
           · simp (disch := omega) only [go_sem]
           · simp (disch := omega) only [hI, hsn, Bi, A2, Bp, go_sem]
   have n1 : ¬ e.kind = 1 := fun h => h12 (.inl h);have n2 : ¬ e.kind = 2 := fun h => h12 (.inr h);obtain ⟨r, hr8, hre⟩ : ∃ r : Nat, r < 8 ∧ e.rep - 1 = r := ⟨(e.rep - 1).toNat, by omega, by omega⟩
   by_cases h8 : e.kind = 8
   · have n9 : ¬ e.kind = 9 := by omega
     by_cases hq : Ho v e.rep < e.seq
     · have hs : Du l (S, v) e = (I5 S e, Bc v e.rep e.seq) := by unfold Du; rw [if_neg h12, if_pos h8]; exact if_pos hq
       rw [hs] at hsn;have hS : I5 S e = { S with wards := E7 S.wards r e.ward } := by unfold I5; rw [hre]; rfl
       rw [hS] at hsn;have hsp := Wg S hr8 e.ward (.sl false 15 (S.objs.map A4)) (.sl false 15 (S.ents.map Bj));have hq' : ((Ho v e.rep : Nat) : Int) < (e.seq : Int) := by omega
       have hvl := Bh (Bc v e.rep e.seq);simp (disch := omega) only [Ua, hX, List.length_map, he, Bx, hel, Ae, n1, n2, h8, Db, Fx, go_sem];refine Aa (P6 v e.rep) ?_;simp (disch := omega) only [hq', Bb, go_sem];refine Aa (E8 _ _ _) ?_;simp (disch := omega) only [hvl, Db, hre, Vd, Bi, A2, hsp, Ae, h8, go_sem];refine Ad (k + 1) _ _ rfl (by omega) (by omega) ?_ ?_
       · simp (disch := omega) only [go_sem]
       · simp (disch := omega) only [hsn, Bp, go_sem];exact ⟨Aa5 { S with wards := E7 S.wards r e.ward }, rfl⟩
     · have hs : Du l (S, v) e = (S, v) := by unfold Du; rw [if_neg h12, if_pos h8]; exact if_neg hq
       rw [hs] at hsn;have hq' : ¬ ((Ho v e.rep : Nat) : Int) < (e.seq : Int) := by omega
       simp (disch := omega) only [Ua, hX, List.length_map, he, Bx, hel, Ae, n1, n2, h8, Db, Fx, go_sem];refine Aa (P6 v e.rep) ?_;simp (disch := omega) only [hq', Ae, h8, go_sem];refine Ad (k + 1) _ _ rfl (by omega) (by omega) ?_ ?_
       · simp (disch := omega) only [go_sem]
       · simp (disch := omega) only [hsn, Bp, Bi, A2, go_sem]
   by_cases h9 : e.kind = 9
   · have hs : Du l (S, v) e = (P0 S e, v) := by unfold Du; rw [if_neg h12, if_neg h8, if_pos h9]
     rw [hs] at hsn;have hS : P0 S e = { S with ret := E7 S.ret r true } := by unfold P0; rw [hre]; rfl
     rw [hS] at hsn;have hsp := Abi S hr8 true (.sl false 15 (S.objs.map A4)) (.sl false 15 (S.ents.map Bj));simp (disch := omega) only [Ua, hX, List.length_map, he, Bx, hel, Ae, n1, n2, h8, h9, Db, hre, Bi, A2, hsp, go_sem];refine Ad (k + 1) _ _ rfl (by omega) (by omega) ?_ ?_
     · simp (disch := omega) only [go_sem]
     · simp (disch := omega) only [hsn, Bp, go_sem];exact Aa5 { S with ret := E7 S.ret r true }
   · have hs : Du l (S, v) e = (S, v) := by unfold Du; rw [if_neg h12, if_neg h8, if_neg h9]
     rw [hs] at hsn;simp (disch := omega) only [Ua, hX, List.length_map, he, Bx, hel, Ae, n1, n2, h8, h9, go_sem];refine Ad (k + 1) _ _ rfl (by omega) (by omega) ?_ ?_
     · simp (disch := omega) only [go_sem]
     · simp (disch := omega) only [hsn, Bp, Bi, A2, go_sem]
 obtain rfl : k = l.length := by omega
 have htk : l.take l.length = l := List.take_length;simp (disch := omega) only [Ua, Bp, Bi, A2, List.length_map, htk, A8, go_sem];refine Bw ?_;simp (disch := omega) only [go_sem]
theorem Asb {l : List Evt} {rk : Evt → Nat} {h d g} (hE : EvsOk l rk) (hB : ∀ e ∈ l, 1 ≤ e.rep ∧ e.rep ≤ 8) (hg : h g = some (.row 21 (l.map Bq))) : FunOk Tryz.prog 6 [.os g] h d (.agg (Bi (A8 l))) [] :=
 FunOk.ioRow (fun h d hg => Ana hE hB hg) rfl rfl hg
theorem Ahv {l : List Obj} (hs : El l) (i : Bo) : E9 l i = l.find? fun o => decide (o.id = i) := by
 cases h : E9 l i with
 | some o =>
   obtain ⟨h1, h2⟩ := Gv h;symm;obtain ⟨hlt, hg⟩ := List.getElem?_eq_some_iff.1 h1;rw [List.find?_eq_some_iff_getElem];refine ⟨by simpa using h2, B0 l i, hlt, hg, fun j hj => ?_⟩;have := Ou hj (List.getElem?_eq_getElem (by omega));simp only [Bool.not_eq_true', decide_eq_false_iff_not];intro q;rw [q] at this;exact Ga this
 | none =>
   symm;rw [List.find?_eq_none];intro x hx q;have q : x.id = i := by simpa using q
   obtain ⟨j, hj⟩ := List.mem_iff_getElem?.1 hx;have h1 : ¬ j < B0 l i := fun hq => by
    have := Ou hq hj;rw [q] at this; exact Ga this
   by_cases e : j = B0 l i
   · unfold E9 at h;rw [← e, hj] at h;simp only at h;rw [if_pos q] at h; cases h
   · have hlt := (List.getElem?_eq_some_iff.1 hj).1;have hp : B0 l i < l.length := by omega
     have hy : l[B0 l i]? = some l[B0 l i] := List.getElem?_eq_getElem hp;have h3 := La hs hy hj (by omega);rw [q] at h3;exact Q6 hs (Nat.le_refl _) hy h3
def Aba (s : St) (i : Bo) (z : SV) (k : Nat) : FS := mk [(6, .pv (.i .i64 k)), (2, .p 2 0), (3, .p 3 0), (4, .p 4 0)] [(2, some (.var (.agg (Bi s)))), (3, some (.var (.vec 2 [.i .i64 i.1, .i .u32 i.2]))), (4, some (.var z))]
def Anc : Obj := ⟨(0, 0), false, (0, 0), [], fun _ => 0, []⟩
theorem An0 : Imp (.agg [.pv (.i .i64 0), .pv (.i .u32 0), .pv (.b false), .pv (.i .i64 0), .pv (.i .u32 0), .pv (.s []), .vec 8 (vE fun _ => 0), .pv (.sl true 0 [])]) (.vec 15 (A4 Anc)) :=
 fun V ρ v h => An1 (Ayp Anc (.inl rfl)) V ρ v (Hd (n := 15) (cs := E0 true 0 Anc) (by rfl) (Ed _ _ _) V ρ v h)
set_option maxHeartbeats 1000000 in
theorem Akm {s : St} (i : Bo) (hs : El s.objs) {h d} (hn : s.objs.length ≤ 1000) : FunOk Tryz.prog 43 [.agg (Bi s), .vec 2 [.i .i64 i.1, .i .u32 i.2]] h d (.tup [.vec 15 (A4 ((E9 s.objs i).getD Anc)), .pv (.b (E9 s.objs i).isSome)]) [] := by
 refine Aab Af fn43 (by simp) rfl rfl fun F => ?_;simp (disch := omega) only [ir43, Bi, A2, go_sem];refine A0 Af (Aba s i Ge) (fun k => k ≤ s.objs.length ∧ ∀ j x, j < k → s.objs[j]? = some x → x.id ≠ i) (fun k => s.objs.length - k) 0 ⟨by simp, fun j x hj => absurd hj (Nat.not_lt_zero j)⟩ (Ak ?_ ?_) fun k hk => ?_
 · simp (disch := omega) only [go_sem]
 · simp (disch := omega) only [Ge, Bi, A2, go_sem]
 obtain ⟨hk1, hk2⟩ := hk;rw [Ahv hs];by_cases hlt : k < s.objs.length
 · have hx : s.objs[k]? = some s.objs[k] := List.getElem?_eq_getElem hlt;have he : (s.objs.map A4)[k]? = some (A4 s.objs[k]) := by rw [List.getElem?_map, hx]; rfl
   have hgk : s.objs[k] = s.objs[k] := rfl;generalize hO : s.objs[k] = o at *;have hol := Ep o;by_cases hb : o.id = i
   · have hp := Fq hb;have hf : s.objs.find? (fun o => decide (o.id = i)) = some o := by
      rw [List.find?_eq_some_iff_getElem];refine ⟨by simpa using hb, k, hlt, hO, fun j hj => ?_⟩;simpa using hk2 j _ hj (List.getElem?_eq_getElem (by omega))
     rw [hf];simp (disch := omega) only [Aba, Ge, Bi, A2, List.length_map, he, Jx, Ag, Br, hp, Fc, hol, go_sem];refine Bw ?_;simp (disch := omega) only [go_sem];exact Imp.refl _
   · have hp := Fs hb;simp (disch := omega) only [Aba, Ge, Bi, A2, List.length_map, he, Jx, Ag, Br, hp, go_sem];refine Ad (k + 1) _ _ rfl ⟨by omega, fun j x hj hjx => ?_⟩ (by omega) ?_ ?_
     · by_cases ej : j = k
       · subst ej; rw [hx] at hjx; cases hjx; exact hb
       · exact hk2 j x (by omega) hjx
     · simp (disch := omega) only [go_sem]
     · simp (disch := omega) only [Ge, Bi, A2, go_sem]
 · obtain rfl : k = s.objs.length := by omega
   have hf : s.objs.find? (fun o => decide (o.id = i)) = none := by
    rw [List.find?_eq_none];intro x hx;obtain ⟨j, hj⟩ := List.mem_iff_getElem?.1 hx;simpa using hk2 j x (List.getElem?_eq_some_iff.1 hj).1 hj
   rw [hf];simp (disch := omega) only [Aba, Ge, Bi, A2, List.length_map, go_sem];refine Bw ?_;simp (disch := omega) only [go_sem];exact Uz An0
theorem Ayg {s : St} (i : Bo) (hs : El s.objs) {h d} (hn : s.objs.length ≤ 1000) : FunOk Tryz.prog 42 [.agg (Bi s), .vec 2 [.i .i64 i.1, .i .u32 i.2]] h d (.pv (.i .i64 (K7 s.objs i))) [] := by
 refine Aw Af fn42 (by simp) rfl rfl fun F => ?_;have hd := Ais (l := s.objs) i;have ho := Akm (s := s) i hs hn (h := fun _ => none) (d := 0);rw [show Bi s = [.vec 8 (vE s.known), .pv (.sl false 15 (s.objs.map A4)), .pv (.sl false 15 (s.ents.map Bj)), .vec 8 (iE s.wards), .vec 8 (wE s.ret)] from rfl] at ho;simp (disch := omega) only [ir42, Bi, A2, go_sem];refine Aa (Arz _ _) ?_;by_cases h0 : i = (0, 0)
 · have hz : Cc i.1 i.2 = true := decide_eq_true (Adg h0);rw [if_pos h0] at hd;simp (disch := omega) only [hz, hd, go_sem]
 · have hz : Cc i.1 i.2 = false := decide_eq_false fun e => h0 (Prod.ext e.1 e.2);rw [if_neg h0] at hd;simp (disch := omega) only [hz, go_sem];refine Aa (ho.at (by simp [A5, tn])) ?_;cases hA : E9 s.objs i with
   | none =>
     rw [hA] at hd;simp only at hd;have hol := Ep Anc;simp (disch := omega) only [Option.isSome_none, hol, hd, go_sem]
   | some o =>
     rw [hA] at hd;simp only at hd;have hol := Ep o;by_cases hdd : o.dir = true
     · rw [if_pos hdd] at hd;simp (disch := omega) only [Option.isSome_some, Option.getD_some, hol, Ln, hdd, hd, go_sem]
     · have hdd' : o.dir = false := by simpa using hdd
       rw [if_neg hdd] at hd;simp (disch := omega) only [Option.isSome_some, Option.getD_some, hol, Ln, hdd', hd, go_sem]
theorem Af7 {e : Evt} (h : Bm e = true) (hk : e.kind = 3 ∨ e.kind = 4 ∨ e.kind = 5) : ∀ b ∈ e.base.l, Bs e.dep b.1 b.2 = true := by
 unfold Bm at h;simp only [Bool.and_eq_true, decide_eq_true_eq] at h;have hK := h.2.2.2;have key : ∀ m, Ee e.base.l m e.dep = true → ∀ b ∈ e.base.l, Bs e.dep b.1 b.2 = true := fun m hm b hb => by
  unfold Ee G4 at hm;simp only [Bool.and_eq_true, decide_eq_true_eq] at hm;obtain ⟨j, hj⟩ := List.mem_iff_getElem?.1 hb;obtain ⟨hlt, hg⟩ := List.getElem?_eq_some_iff.1 hj;have := (hm.2 j hlt).1;rw [hg] at this; exact this
 rcases hk with h3 | h3 | h3
 · rw [Kn h3] at hK;simp only [Bool.and_eq_true] at hK;exact key _ hK.2.1
 · rw [O1 h3] at hK;simp only [Bool.and_eq_true] at hK;exact key _ hK.2.1
 · rw [O0 h3] at hK;simp only [Bool.and_eq_true] at hK;exact key _ hK.2.1
theorem Afo {a : Vc} {r : Int} {q : Nat} (h : Bs a r q = true) : 1 ≤ q ∧ 1 ≤ r ∧ r ≤ 8 ∧ q ≤ a (r - 1).toNat := by
 unfold Bs Ho at h;simp only [decide_eq_true_eq] at h;by_cases hr : 1 ≤ r ∧ r ≤ 8
 · rw [if_pos hr] at h; exact ⟨h.1, hr.1, hr.2, h.2⟩
 · rw [if_neg hr] at h; omega
def Aqm (s : St) (e : Evt) (o : Obj) (k : Nat) : FS := mk [(7, .pv (.i .i64 k)), (2, .p 2 0), (3, .p 3 0), (5, .p 5 0), (4, .pv (.i .i64 0))] [(2, some (.var (.agg (Bi s)))), (3, some (.var (.vec 21 (Bq e)))), (5, some (.var (.vec 15 (A4 o))))]
set_option maxHeartbeats 8000000 in
theorem A82 {s : St} {e : Evt} (hs : StIn s) (he : ev e) (hdep : ∀ i, i < 8 → e.dep i < 4294967296) {h d} : FunOk Tryz.prog 19 [.agg (Bi s), .vec 21 (Bq e)] h d (.pv (.i .i64 (Gt s e))) [] := by
 refine Aw Af fn19 (by simp) rfl rfl fun F => ?_;have a1 := hs.fine.on;have hS : Bi s = [.vec 8 (vE s.known), .pv (.sl false 15 (s.objs.map A4)), .pv (.sl false 15 (s.ents.map Bj)), .vec 8 (iE s.wards), .vec 8 (wE s.ret)] := rfl;have hO := Akm (s := s) (Ax e) hs.so (by omega) (h := fun _ => none) (d := 0);have hD := Ayg (s := s) (Hf e) hs.so (by omega) (h := fun _ => none) (d := 0);rw [hS] at hO hD;simp (disch := omega) only [ir19, Bi, A2, Bx, go_sem];refine Aa (Asa e he hdep) ?_;by_cases hc' : Bm e = false
 · have hw : Gt s e = 7 := if_pos hc';simp (disch := omega) only [hc', hw, go_sem]
 have hc : Bm e = true := by simpa using hc'
 have hb := Cr hc;obtain ⟨b1, b2, b3, b4, b5, b6, b7⟩ := hb;simp (disch := omega) only [hc, Bb, Fb, go_sem];refine Aa (P5 _ _ _) ?_;by_cases h1 : Bs s.known e.rep e.seq = true
 · have hw : Gt s e = 11 := by unfold Gt; rw [if_neg hc', if_pos h1]
   simp (disch := omega) only [h1, hw, go_sem]
 have h1' : Bs s.known e.rep e.seq = false := by simpa using h1
 simp (disch := omega) only [h1', Fb, go_sem];refine Aa (A4i _ _) ?_;by_cases h2 : Yn e.dep s.known;rotate_left
 · have hw : Gt s e = 10 := by unfold Gt; rw [if_neg hc', if_neg h1, if_pos h2]
   have h2' := decide_eq_false h2;simp (disch := omega) only [h2', hw, go_sem]
 have h2' := decide_eq_true h2;obtain ⟨k, hk8, hre⟩ : ∃ k : Nat, k < 8 ∧ e.rep - 1 = k := ⟨(e.rep - 1).toNat, by omega, by omega⟩
 have hld := fun (a b : PV) (w : Nat → Int) (r : Nat → Bool) (K : KK) => Ak2 a b w r hk8 K;simp (disch := omega) only [h2', Db, hre, hld, go_sem];by_cases h3 : s.ret k = true
 · have hw : Gt s e = 28 := by unfold Gt; rw [if_neg hc', if_neg h1, if_neg (by simpa using h2), if_pos (by rw [hre]; exact h3)]
   simp (disch := omega) only [h3, hw, go_sem]
 have h3' : s.ret k = false := by simpa using h3
 have hw : Gt s e = Qv s e := by unfold Gt; rw [if_neg hc', if_neg h1, if_neg (by simpa using h2), if_neg (by rw [hre]; exact h3)]
 unfold Qv at hw;by_cases h89 : e.kind = 8 ∨ e.kind = 9
 · rw [if_pos h89] at hw;rcases h89 with h8 | h9
   · simp (disch := omega) only [h3', Ae, h8, hw, go_sem]
   · have n8 : ¬ e.kind = 8 := by omega
     simp (disch := omega) only [h3', Ae, n8, h9, hw, go_sem]
 rw [if_neg h89] at hw;have n8 : ¬ e.kind = 8 := fun q => h89 (.inl q);have n9 : ¬ e.kind = 9 := fun q => h89 (.inr q);by_cases h12 : e.kind = 1 ∨ e.kind = 2
 · rw [if_pos h12] at hw;rcases h12 with h1k | h2k
   · simp (disch := omega) only [h3', Ae, n8, n9, h1k, Dh, go_sem];refine Aa (hD.at (by simp [A5, tn])) ?_;simp (disch := omega) only [hw, go_sem]
   · have n1 : ¬ e.kind = 1 := by omega
     simp (disch := omega) only [h3', Ae, n8, n9, n1, h2k, Dh, go_sem];refine Aa (hD.at (by simp [A5, tn])) ?_;simp (disch := omega) only [hw, go_sem]
 rw [if_neg h12] at hw;have n1 : ¬ e.kind = 1 := fun q => h12 (.inl q);have n2 : ¬ e.kind = 2 := fun q => h12 (.inr q);simp (disch := omega) only [h3', Ae, n8, n9, n1, n2, A9, go_sem];refine Aa (hO.at (by simp [A5, tn])) ?_;cases hA : E9 s.objs (Ax e) with
 | none =>
   rw [hA] at hw;simp only at hw;have hol := Ep Anc;simp (disch := omega) only [Option.isSome_none, Option.getD_none, hol, hw, go_sem]
 | some o =>
   rw [hA] at hw;simp only at hw;have hol := Ep o;by_cases h7 : e.kind = 7
   · rw [if_pos h7] at hw;simp (disch := omega) only [Option.isSome_some, Option.getD_some, hol, Ae, h7, Dh, go_sem];refine Aa (hD.at (by simp [A5, tn])) ?_;simp (disch := omega) only [hw, go_sem]
   rw [if_neg h7] at hw;by_cases h6 : e.kind = 6
   · rw [if_pos h6] at hw;simp (disch := omega) only [Option.isSome_some, Option.getD_some, hol, Ae, h7, h6, hw, go_sem]
   rw [if_neg h6] at hw;by_cases hd : o.dir = true
   · rw [if_pos hd] at hw;simp (disch := omega) only [Option.isSome_some, Option.getD_some, hol, Ae, h7, h6, Ln, hd, hw, go_sem]
   rw [if_neg hd] at hw;have hd' : o.dir = false := by simpa using hd
   have hk345 : e.kind = 3 ∨ e.kind = 4 ∨ e.kind = 5 := by omega
   have hb1 := Af7 hc hk345;have hbl := Ps hc hk345;have hom := List.mem_of_getElem? (Gv hA).1;have hov := hs.fine.ov o hom;have hpv : e.base.pv = .sl e.base.f e.base.z (e.base.l.map Em) := rfl;simp (disch := omega) only [Option.isSome_some, Option.getD_some, hol, Ae, h7, h6, Ln, hd', go_sem];refine A0 Af (Aqm s e o) (fun k => k ≤ e.base.l.length ∧ ∀ j b, j < k → e.base.l[j]? = some b → Bt o.vers b.1 b.2 ≠ none) (fun k => e.base.l.length - k) 0 ⟨by simp, fun j b hj => absurd hj (Nat.not_lt_zero j)⟩ (Ak ?_ ?_) fun k hk => ?_
   · simp (disch := omega) only [go_sem]
   · simp (disch := omega) only [Bi, A2, go_sem]
   obtain ⟨hk1, hk2⟩ := hk;by_cases hlt : k < e.base.l.length
   · have hx : e.base.l[k]? = some e.base.l[k] := List.getElem?_eq_getElem hlt;have hel : (e.base.l.map Em)[k]? = some (Em e.base.l[k]) := by rw [List.getElem?_map, hx]; rfl
     have hz2 : e.base.z = 2 := he.2.1.resolve_left fun q => by rw [q] at hlt; simp at hlt
     have hbm := List.getElem_mem hlt;have hbz := Afo (hb1 _ hbm);generalize e.base.l[k] = b at *;have hnz : ¬ (b.1 = 0 ∧ b.2 = 0) := by omega
     simp (disch := omega) only [Aqm, Bi, A2, Gp, hpv, List.length_map, hz2, hel, E3, Mi, go_sem];refine Aa (Akq (l := o.vers) b.1 b.2 rfl rfl (by omega)) ?_;cases hf : Bt o.vers b.1 b.2 with
     | none =>
       have hm : C7 o.vers e.base.l := ⟨b, hbm, hf⟩
       rw [if_pos hm] at hw;have hdv := R1 hnz hf;simp (disch := omega) only [hdv, hw, go_sem]
     | some v =>
       have hdv := Mu hnz hf;simp (disch := omega) only [hdv, go_sem];refine Ad (k + 1) _ _ rfl ⟨by omega, fun j c hj hjc => ?_⟩ (by omega) ?_ ?_
       · by_cases ej : j = k
         · subst ej; rw [hx] at hjc; cases hjc; rw [hf]; simp
         · exact hk2 j c (by omega) hjc
       · simp (disch := omega) only [go_sem]
       · simp (disch := omega) only [Bi, A2, go_sem]
   · obtain rfl : k = e.base.l.length := by omega
     have hm : ¬ C7 o.vers e.base.l := fun ⟨b, hbm, hf⟩ => by
      obtain ⟨j, hj⟩ := List.mem_iff_getElem?.1 hbm;exact hk2 j b (List.getElem?_eq_some_iff.1 hj).1 hj hf
     rw [if_neg hm] at hw;simp (disch := omega) only [Aqm, Bi, A2, Gp, hpv, List.length_map, hw, go_sem]
def vid (v : Ver) : Bo := (v.rep, v.seq)
def Pp (bs : List Bo) (r : Int) (q : Nat) (x : Ver) : Ver := if (x.rep, x.seq) ∈ bs then Es x r q else x
theorem Ab7 (l : List Ver) (bs : List Bo) (r : Int) (q : Nat) : Ds l bs r q = l.map (Pp bs r q) := rfl
theorem Ae4 (bs : List Bo) (r : Int) (q : Nat) (x : Ver) : vid (Pp bs r q x) = vid x := by
 have := Gn x bs r q;simp only [vid, Pp, this.1, this.2]
theorem As3 {l : List Ver} {bs : List Bo} {v x : Ver} : x ∈ Fk l bs v ↔ x = v ∨ ∃ y ∈ l, x = Pp bs v.rep v.seq y := by
 unfold Fk;rw [Ab7];have h : ∀ p, x ∈ (l.map (Pp bs v.rep v.seq)).take p ++ v :: (l.map (Pp bs v.rep v.seq)).drop p ↔ x = v ∨ x ∈ l.map (Pp bs v.rep v.seq) := fun p => by
  conv => rhs; rw [← List.take_append_drop p (l.map (Pp bs v.rep v.seq))]
  simp only [List.mem_append, List.mem_cons];constructor
  · rintro (h | h | h)
    · exact .inr (.inl h)
    · exact .inl h
    · exact .inr (.inr h)
  · rintro (h | h | h)
    · exact .inr (.inl h)
    · exact .inl h
    · exact .inr (.inr h)
 rw [h, List.mem_map];exact or_congr_right ⟨fun ⟨y, h1, h2⟩ => ⟨y, h1, h2.symm⟩, fun ⟨y, h1, h2⟩ => ⟨y, h1, h2.symm⟩⟩
theorem Avv {l : List Ver} {r : Int} {q : Nat} (h : Bt l r q = none) : ∃ p, Ql l r q 0 = (p, false) := by
 rcases ha : Ql l r q 0 with ⟨p, b⟩
 cases b with
 | false => exact ⟨p, rfl⟩
 | true => obtain ⟨_, u, _, _, h4⟩ := Iu ha; rw [h] at h4; cases h4
theorem Agq {l : List Ver} {bs : List Bo} {v : Ver} (hs : Ck l) (h : Bt l v.rep v.seq = none) : Ck (Fk l bs v) := by
 obtain ⟨p, hp⟩ := Avv h;obtain ⟨_, g2, g3, g4, g5, g6⟩ := H4 hs hp;rw [Nat.sub_zero] at g2 g5 g6;have hM := Rb (bs := bs) (r := v.rep) (q := v.seq) hs;unfold Fk;rw [hp];simp only;have h5 : ∀ x ∈ (Ds l bs v.rep v.seq).take p, Ch x.rep x.seq v.rep v.seq = true := fun x hx => by
  rw [Ab7, ← List.map_take] at hx;obtain ⟨y, hy, rfl⟩ := List.mem_map.1 hx;have := Ae4 bs v.rep v.seq y;simp only [vid, Prod.mk.injEq] at this;rw [this.1, this.2]; exact g5 y hy
 have h6 : ∀ x ∈ (Ds l bs v.rep v.seq).drop p, Ch v.rep v.seq x.rep x.seq = true := fun x hx => by
  rw [Ab7, ← List.map_drop] at hx;obtain ⟨y, hy, rfl⟩ := List.mem_map.1 hx;have := Ae4 bs v.rep v.seq y;simp only [vid, Prod.mk.injEq] at this;rw [this.1, this.2]; exact g6 y hy
 refine List.pairwise_append.2 ⟨List.Pairwise.sublist (List.take_sublist _ _) hM, List.pairwise_cons.2 ⟨h6, List.Pairwise.sublist (List.drop_sublist _ _) hM⟩, fun a ha b hb => ?_⟩;rcases List.mem_cons.1 hb with rfl | hb
 · exact h5 a ha
 · exact Qb (h5 a ha) (h6 b hb)
theorem Wm {α : Type} {P : List α → Prop} (h0 : P []) (h1 : ∀ l a, P l → P (l ++ [a])) : ∀ l, P l := by
 have key : ∀ n, ∀ l : List α, l.length = n → P l := by
  intro n
  induction n with
  | zero => intro l hl; rw [List.eq_nil_of_length_eq_zero hl]; exact h0
  | succ n ih =>
    intro l hl;have hne : l ≠ [] := fun e => by subst e; simp at hl
    rw [← List.dropLast_concat_getLast hne];exact h1 _ _ (ih _ (by simp [hl]))
 exact fun l => key _ l rfl
theorem Abs {α : Type} {r : α → α → Prop} (ha : ∀ a b, r a b → r b a → False) : ∀ {l m : List α}, l.Pairwise r → m.Pairwise r → (∀ a, a ∈ l ↔ a ∈ m) → l = m
 | [], [], _, _, _ => rfl
 | [], y :: m, _, _, h => by have := (h y).2 List.mem_cons_self; cases this
 | x :: l, [], _, _, h => by have := (h x).1 List.mem_cons_self; cases this
 | x :: l, y :: m, hl, hm, h => by
   obtain ⟨h1, h2⟩ := List.pairwise_cons.1 hl;obtain ⟨k1, k2⟩ := List.pairwise_cons.1 hm;have ex : x = y := by
    rcases List.mem_cons.1 ((h x).1 List.mem_cons_self) with a | a
    · exact a
    · rcases List.mem_cons.1 ((h y).2 List.mem_cons_self) with b | b
      · exact b.symm
      · exact (ha _ _ (h1 y b) (k1 x a)).elim
   subst ex;congr 1;refine Abs ha h2 k2 fun a => ?_;have ne : ∀ {n : List α}, (∀ b ∈ n, r x b) → x ∉ n := fun hn hx => ha x x (hn x hx) (hn x hx);constructor
   · intro hq;rcases List.mem_cons.1 ((h a).1 (List.mem_cons_of_mem _ hq)) with e | e
     · subst e; exact absurd hq (ne h1)
     · exact e
   · intro hq;rcases List.mem_cons.1 ((h a).2 (List.mem_cons_of_mem _ hq)) with e | e
     · subst e; exact absurd hq (ne k1)
     · exact e
theorem Oq {l m : List Ent} (hl : Dk l) (hm : Dk m) (h : ∀ x, x ∈ l ↔ x ∈ m) : l = m := Abs (fun a b h k => Nw h k) hl hm h
theorem Zh {l m : List Ver} (hl : Ck l) (hm : Ck m) (h : ∀ x, x ∈ l ↔ x ∈ m) : l = m := Abs (fun a b h k => Nw (a := (a.rep, a.seq)) (b := (b.rep, b.seq)) h k) hl hm h
theorem Wj {l : List Obj} : El l ↔ l.Pairwise fun a b => Ic a.id b.id = true := by
 unfold El Dk; rw [List.pairwise_map]; exact Iff.rfl
theorem Sr {l m : List Obj} (hl : El l) (hm : El m) (h : ∀ x, x ∈ l ↔ x ∈ m) : l = m := Abs (fun a b h k => Nw h k) (Wj.1 hl) (Wj.1 hm) h
structure Acc (s : St) (e : Evt) : Prop where
 ck : Bm e = true
 new : Bs s.known e.rep e.seq = false
 dep : Yn e.dep s.known
 ret : s.ret (e.rep - 1).toNat = false
 why : Qv s e = 0
theorem Vr {s : St} {e : Evt} : Gt s e = 0 ↔ Acc s e := by
 unfold Gt;constructor
 · intro h;split at h
   · cases h
   · split at h
     · cases h
     · split at h
       · cases h
       · split at h
         · cases h
         · rename_i h1 h2 h3 h4;exact ⟨by simpa using h1, by simpa using h2, by simpa using h3, by simpa using h4, h⟩
 · intro ⟨h1, h2, h3, h4, h5⟩;rw [if_neg (by rw [h1]; simp), if_neg (by rw [h2]; simp), if_neg (fun q => q h3), if_neg (by rw [h4]; simp)];exact h5
inductive Val : List Evt → Prop
 | nil : Val []
 | snoc {l : List Evt} {e : Evt} : Val l → ev e → Gt (A8 l) e = 0 → Val (l ++ [e])
theorem G9 (l : List Evt) : (A8 l).known = Dl l := (Age l l).2
theorem Pa (l : List Evt) : (A8 l).ents = Cz l l := (Age l l).1
theorem Val.inv {l : List Evt} {e : Evt} (h : Val (l ++ [e])) : Val l ∧ ev e ∧ Gt (A8 l) e = 0 := by
 generalize hm : l ++ [e] = m at h;cases h with
 | nil => simp at hm
 | snoc a b c =>
   obtain ⟨rfl, h2⟩ := List.append_inj' hm rfl;cases h2;exact ⟨a, b, c⟩
theorem Val.pre {l m : List Evt} : Val (l ++ m) → Val l :=
 Wm (P := fun m => Val (l ++ m) → Val l) (fun h => by simpa using h) (fun m e ih h => by
  rw [← List.append_assoc] at h;exact ih h.inv.1) m
theorem Nx {a : Vc} {i : Bo} : Bs a i.1 i.2 = true ↔ 1 ≤ i.2 ∧ 1 ≤ i.1 ∧ i.1 ≤ 8 ∧ i.2 ≤ a (i.1 - 1).toNat := by
 refine ⟨Afo, fun ⟨h1, h2, h3, h4⟩ => ?_⟩;unfold Bs Ho; rw [if_pos ⟨h2, h3⟩]; exact decide_eq_true ⟨h1, h4⟩
theorem Qu {v : Vc} {r : Int} {q : Nat} (hr : 1 ≤ r ∧ r ≤ 8) (i : Nat) : Bc v r q i = if i = (r - 1).toNat then max (v i) q else v i := by
 unfold Bc E7; rw [if_pos hr]; split
 · rename_i h; rw [h]
 · rfl
theorem Aaw {v : Vc} {r : Int} {q : Nat} (i : Nat) : v i ≤ Bc v r q i := by
 by_cases hr : 1 ≤ r ∧ r ≤ 8
 · rw [Qu hr]; split <;> omega
 · unfold Bc; rw [if_neg hr]; exact Nat.le_refl _
theorem At2 {a b : Vc} (h : ∀ i, i < 8 → a i ≤ b i) {i : Bo} (k : Bs a i.1 i.2 = true) : Bs b i.1 i.2 = true := by
 rw [Nx] at k ⊢;have := h (i.1 - 1).toNat (by omega);omega
theorem Agr {s : St} {e : Evt} (h : Acc s e) : 1 ≤ e.rep ∧ e.rep ≤ 8 ∧ e.seq = s.known (e.rep - 1).toNat + 1 := by
 obtain ⟨b1, b2, b3, b4, b5, b6, b7⟩ := Cr h.ck;have h1 := h.dep (e.rep - 1).toNat (by omega);have h2 : ¬ Bs s.known e.rep e.seq = true := by rw [h.new]; simp
 rw [show Bs s.known e.rep e.seq = Bs s.known (Aj e).1 (Aj e).2 from rfl, Nx] at h2;simp only at h2;omega
theorem Val.known {l : List Evt} (h : Val l) : NodE l ∧ ∀ i : Bo, Bs (Dl l) i.1 i.2 = true ↔ ∃ e ∈ l, Aj e = i := by
 induction h with
 | nil => exact ⟨List.nodup_nil, fun i => by rw [Nx]; simp [Dl]; omega⟩
 | @snoc l e hl he hw ih =>
   have ha := Vr.1 hw;obtain ⟨n1, n2, n3⟩ := Agr ha;have hb := Cr ha.ck;rw [G9] at n3;have hnew : ¬ ∃ f ∈ l, Aj f = Aj e := fun q => by
    have := (ih.2 (Aj e)).2 q;have h2 := ha.new;rw [G9] at h2;rw [show Bs (Dl l) (Aj e).1 (Aj e).2 = Bs (Dl l) e.rep e.seq from rfl, h2] at this;cases this
   refine ⟨?_, fun i => ?_⟩
   · unfold NodE;rw [List.map_append, List.nodup_append];refine ⟨ih.1, by simp, fun a hm b hb q => hnew ?_⟩;obtain ⟨f, hf, rfl⟩ := List.mem_map.1 hm;simp at hb;exact ⟨f, hf, by rw [q, hb]⟩
   · rw [Km];have key : Bs (Bc (Dl l) e.rep e.seq) i.1 i.2 = true ↔ Bs (Dl l) i.1 i.2 = true ∨ i = Aj e := by
      rw [Nx, Nx, Qu ⟨n1, n2⟩];by_cases hi : i = Aj e
      · subst hi;simp only [or_true, iff_true];refine ⟨hb.2.2.1, n1, n2, ?_⟩;simp only [if_true]; exact Nat.le_max_right _ _
      · simp only [hi, or_false];by_cases hr : i.1 = e.rep
        · have hq : i.2 ≠ e.seq := fun q => hi (Prod.ext hr q);rw [hr, if_pos rfl];omega
        · constructor
          · rintro ⟨a, b, c, d⟩;rw [if_neg (by omega)] at d;exact ⟨a, b, c, d⟩
          · rintro ⟨a, b, c, d⟩;rw [if_neg (by omega)];exact ⟨a, b, c, d⟩
     rw [key, ih.2];constructor
     · rintro (⟨f, hf, q⟩ | q)
       · exact ⟨f, by simp [hf], q⟩
       · exact ⟨e, by simp, q.symm⟩
     · rintro ⟨f, hf, q⟩;rcases List.mem_append.1 hf with hf | hf
       · exact .inl ⟨f, hf, q⟩
       · rw [List.mem_singleton] at hf; subst hf; exact .inr q.symm
theorem Val.nod {l : List Evt} (h : Val l) : NodE l := h.known.1
theorem Val.has {l : List Evt} (h : Val l) {i : Bo} : Bs (Dl l) i.1 i.2 = true ↔ ∃ e ∈ l, Aj e = i := h.known.2 i
theorem Val.mem {l : List Evt} (h : Val l) {e : Evt} (he : e ∈ l) : ∃ a b, l = a ++ e :: b ∧ Val a ∧ ev e ∧ Acc (A8 a) e := by
 obtain ⟨a, b, rfl⟩ := List.append_of_mem he;have h2 : Val ((a ++ [e]) ++ b) := by rw [List.append_assoc]; exact h
 obtain ⟨h3, h4, h5⟩ := h2.pre.inv;exact ⟨a, b, rfl, h3, h4, Vr.1 h5⟩
theorem Vs {l : List Evt} (h : Val l) {e : Evt} (ha : Acc (A8 l) e) {i : Bo} (k : Bs e.dep i.1 i.2 = true) : ∃ f ∈ l, Aj f = i := by
 refine h.has.1 (At2 (fun j hj => ?_) k);have := ha.dep j hj
 rwa [G9] at this
theorem Gr {l : List Evt} (h : Val l) {e : Evt} (ha : Acc (A8 l) e) : ∀ f ∈ l, Aj f ≠ Aj e := fun f hf q => by
 have h1 := h.has.2 ⟨f, hf, q⟩;have h2 := ha.new;rw [G9] at h2;rw [show Bs (Dl l) (Aj e).1 (Aj e).2 = Bs (Dl l) e.rep e.seq from rfl, h2] at h1;cases h1
theorem Ald {e : Evt} {l : List Bo} {n : Int} (h : Ee l n e.dep = true) : ∀ b ∈ l, Bs e.dep b.1 b.2 = true := fun b hb => by
 unfold Ee G4 at h;simp only [Bool.and_eq_true, decide_eq_true_eq] at h;obtain ⟨j, hj⟩ := List.mem_iff_getElem?.1 hb;obtain ⟨hlt, hg⟩ := List.getElem?_eq_some_iff.1 hj;have := (h.2 j hlt).1;rw [hg] at this; exact this
theorem N2 {e : Evt} (h : Bm e = true) : Gf e = true ∧ Cn (Cm e) = true := by
 unfold Bm at h;simp only [Bool.and_eq_true, decide_eq_true_eq] at h;exact ⟨h.2.2.2, h.2.2.1⟩
theorem X1 {e : Evt} (h : Bm e = true) (hk : e.kind = 6 ∨ e.kind = 7) : ∀ b ∈ e.gone.l, Bs e.dep b.1 b.2 = true := by
 have hK := (N2 h).1;rcases hk with k | k
 · rw [Vf k] at hK; simp only [Bool.and_eq_true] at hK; exact Ald hK.2
 · rw [Ve k] at hK; simp only [Bool.and_eq_true] at hK; exact Ald hK.2.1
theorem Ao6 {e : Evt} (h : Bm e = true) (hk : e.kind = 3 ∨ e.kind = 4 ∨ e.kind = 5 ∨ e.kind = 6 ∨ e.kind = 7) : Bs e.dep e.orep e.oseq = true := by
 have hK := (N2 h).1;rcases hk with k | k | k | k | k
 · rw [Kn k] at hK; simp only [Bool.and_eq_true] at hK; exact hK.1
 · rw [O1 k] at hK; simp only [Bool.and_eq_true] at hK; exact hK.1
 · rw [O0 k] at hK; simp only [Bool.and_eq_true] at hK; exact hK.1
 · rw [Vf k] at hK; simp only [Bool.and_eq_true] at hK; exact hK.1
 · rw [Ve k] at hK; simp only [Bool.and_eq_true] at hK; exact hK.1
theorem X0 {e : Evt} (h : Bm e = true) (hk : ¬ (e.kind = 3 ∨ e.kind = 4 ∨ e.kind = 5 ∨ e.kind = 6 ∨ e.kind = 7)) : Ax e = (0, 0) := by
 obtain ⟨b1, b2, b3, b4, b5, b6, b7⟩ := Cr h;have hz := (N2 h).2;have h4 : e.kind = 1 ∨ e.kind = 2 ∨ e.kind = 8 ∨ e.kind = 9 := by omega
 have hz' : Cc e.orep e.oseq = true := by
  rcases h4 with k | k | k | k
  · rw [A2e k] at hz; simp only [Al, Bool.and_eq_true, Bool.or_eq_true, Bool.false_eq_true, false_or] at hz; exact hz.1
  · rw [A2d k] at hz; simp only [Al, Bool.and_eq_true, Bool.or_eq_true, Bool.false_eq_true, false_or] at hz; exact hz.1
  · rw [A2c k] at hz; simp only [Al, Bool.and_eq_true, Bool.or_eq_true, Bool.false_eq_true, false_or] at hz; exact hz.1
  · rw [A2b k] at hz; simp only [Al, Bool.and_eq_true, Bool.or_eq_true, Bool.false_eq_true, false_or] at hz; exact hz.1
 obtain ⟨h1, h2⟩ := of_decide_eq_true hz';exact Prod.ext h1 h2
theorem Ayu {l : List Evt} {e : Evt} (h : Val l) (ha : Acc (A8 l) e) (obj : Bo) {g : Evt} (hg : g ∈ l ++ [e]) : Hr g obj (Aj e) = false := by
 cases hq : Hr g obj (Aj e) with
 | false => rfl
 | true =>
   unfold Hr at hq;simp only [Bool.and_eq_true, decide_eq_true_eq] at hq;rcases List.mem_append.1 hg with hg | hg
   · obtain ⟨a, b, rfl, h1, _, h3⟩ := h.mem hg;obtain ⟨f, hf, hi⟩ := Vs h1 h3 (X1 h3.ck hq.1 _ hq.2.2);exact absurd hi (Gr h ha f (by simp [hf]))
   · rw [List.mem_singleton] at hg; subst hg;obtain ⟨f, hf, hi⟩ := Vs h ha (X1 ha.ck hq.1 _ hq.2.2);exact absurd hi (Gr h ha f hf)
theorem Asp {l : List Evt} {e : Evt} (h : Val l) (ha : Acc (A8 l) e) {g : Evt} (hg : g ∈ l ++ [e]) : Ax g ≠ Aj e := fun q => by
 have base := Cr ha.ck;have hne : ∀ {g : Evt}, Bm g = true → Ax g = Aj e → Bs g.dep g.orep g.oseq = true := fun {g} hc q => by
  refine Ao6 hc (Classical.byContradiction fun hk => ?_);have := X0 hc hk;rw [this] at q;have q1 : (0 : Int) = e.rep := congrArg Prod.fst q;have := base.1;omega
 rcases List.mem_append.1 hg with hg | hg
 · obtain ⟨a, b, rfl, h1, _, h3⟩ := h.mem hg;obtain ⟨f, hf, hi⟩ := Vs h1 h3 (i := Ax g) (hne h3.ck q);rw [q] at hi;exact absurd hi (Gr h ha f (by simp [hf]))
 · rw [List.mem_singleton] at hg; subst hg;obtain ⟨f, hf, hi⟩ := Vs h ha (i := Ax g) (hne ha.ck q);rw [q] at hi;exact absurd hi (Gr h ha f hf)
theorem S9 {l : List Evt} : ∀ m : List Evt, NodE m → Dk (Cz l m) ∧ ∀ x, x ∈ Cz l m ↔ ∃ e ∈ m, mkB e = true ∧ x = C8 l e := by
 refine Wm (fun _ => ⟨List.Pairwise.nil, by simp [Cz]⟩) fun m e ih hn => ?_;have hn' : NodE m := by unfold NodE at *; rw [List.map_append] at hn; exact hn.sublist (List.sublist_append_left _ _)
 obtain ⟨h1, h2⟩ := ih hn';have grow : ∀ x : Ent, (∃ f ∈ m ++ [e], mkB f = true ∧ x = C8 l f) ↔ (∃ f ∈ m, mkB f = true ∧ x = C8 l f) ∨ (mkB e = true ∧ x = C8 l e) := fun o => by
  simp only [List.mem_append, List.mem_singleton];constructor
  · rintro ⟨f, hf | rfl, h⟩
    · exact .inl ⟨f, hf, h⟩
    · exact .inr h
  · rintro (⟨f, hf, h⟩ | h)
    · exact ⟨f, .inl hf, h⟩
    · exact ⟨e, .inr rfl, h⟩
 rw [Qg];by_cases hm : mkB e = true
 · rw [if_pos hm, Zl h1];have hnew : Hl (Cz l m) (C8 l e).id = none := F9.2 fun x hx q => by
    obtain ⟨f, hf, _, rfl⟩ := (h2 x).1 hx;unfold NodE at hn;rw [List.map_append, List.nodup_append] at hn;exact hn.2.2 (Aj f) (List.mem_map_of_mem hf) (Aj e) (by simp) q
   have e1 : Ahk (Cz l m) (C8 l e) = Ph (Cz l m) (C8 l e) := by
    unfold Ahk; rw [if_neg (by rw [Alb.2 hnew]; simp)]
   rw [e1];refine ⟨Wh h1 hnew, fun x => ?_⟩;rw [Ab6, h2, grow];exact ⟨fun q => q.elim (fun q => .inr ⟨hm, q⟩) .inl, fun q => q.elim .inr fun q => .inl q.2⟩
 · rw [if_neg hm];refine ⟨h1, fun x => ?_⟩;rw [h2, grow];exact ⟨.inl, fun q => q.resolve_right fun q => hm q.1⟩
theorem Ah7 (b : Bo) (x : Ent) : Nv b (Nv b x) = Nv b x := by
 unfold Nv; simp only [Adm, Agx]
theorem Z7 (e : Evt) : ∀ (m l : List Ent), Fj e l m = l.map fun x => if m.any (fun y => decide (y.id = x.id) && Ev e y) = true then Nv (Aj e) x else x
 | [], l => by simp [Fj]
 | y :: m, l => by
   have ih := Z7 e m (if Ev e y = true then killL l y.id (Aj e) else l);unfold Fj at ih ⊢;simp only [List.foldl_cons];rw [ih];split
   · rename_i hg;unfold killL Uw;rw [List.map_map];refine List.map_congr_left fun x hx => ?_;simp only [Function.comp];by_cases hy : x.id = y.id
     · simp only [if_pos hy];have e2 : List.any (y :: m) (fun z => decide (z.id = x.id) && Ev e z) = true := by simp [hy, hg]
       rw [if_pos e2];split
       · exact Ah7 _ _
       · rfl
     · simp only [if_neg hy];have e2 : List.any (y :: m) (fun z => decide (z.id = x.id) && Ev e z) = List.any m (fun z => decide (z.id = x.id) && Ev e z) := by
        rw [List.any_cons, decide_eq_false (fun q : y.id = x.id => hy q.symm), Bool.false_and, Bool.false_or]
       rw [e2]
   · rename_i hg;refine List.map_congr_left fun x hx => ?_;have e2 : List.any (y :: m) (fun z => decide (z.id = x.id) && Ev e z) = List.any m (fun z => decide (z.id = x.id) && Ev e z) := by
      simp [show Ev e y = false by simpa using hg]
     rw [e2]
theorem At6 {e : Evt} {l : List Ent} (hs : Dk l) : Fj e l l = l.map fun x => if Ev e x = true then Nv (Aj e) x else x := by
 rw [Z7];refine List.map_congr_left fun x hx => ?_;have : l.any (fun y => decide (y.id = x.id) && Ev e y) = Ev e x := by
  rw [Bool.eq_iff_iff, List.any_eq_true];constructor
  · rintro ⟨y, hy, h⟩;simp only [Bool.and_eq_true, decide_eq_true_eq] at h;have h1 := Ae6 hs hy;have h2 := Ae6 hs hx;rw [h.1] at h1;rw [h1] at h2; cases h2;exact h.2
  · exact fun h => ⟨x, hx, by simp [h]⟩
 rw [this]
theorem A00 {l : List Evt} {e : Evt} (h : Val l) (ha : Acc (A8 l) e) (obj : Bo) : byG (l ++ [e]) obj (Aj e) = fun _ => 0 := by
 unfold byG;have : ∀ m : List Evt, (∀ g ∈ m, Hr g obj (Aj e) = false) → m.foldl (fun g f => if Hr f obj (Aj e) = true then Bc g f.rep f.seq else g) (fun _ => 0 : Vc) = fun _ => 0 := fun m hm => by
  induction m with
  | nil => rfl
  | cons g m ih =>
    rw [List.foldl_cons, if_neg (by rw [hm g List.mem_cons_self]; simp)];exact ih fun f hf => hm f (List.mem_cons_of_mem _ hf)
 exact this _ fun g hg => Ayu h ha obj hg
theorem Auy {l : List Evt} {e : Evt} (h : Val l) (ha : Acc (A8 l) e) : C8 (l ++ [e]) e = Fv e (Ez e) := by
 unfold C8 Fv; rw [A00 h ha]
theorem Xu (l : List Evt) (e f : Evt) : C8 (l ++ [e]) f = if Hr e (Ez f) (Aj f) = true then Nv (Aj e) (C8 l f) else C8 l f := by
 unfold C8;rw [R6];split
 · unfold Nv; simp only;rw [show Bc (byG l (Ez f) (Aj f)) e.rep e.seq = Bc (byG l (Ez f) (Aj f)) (Aj e).1 (Aj e).2 from rfl, Adk]
 · rfl
theorem Xn (l : List Evt) (e f : Evt) (hk : e.kind = 6 ∨ e.kind = 7) : Hr e (Ez f) (Aj f) = Ev e (C8 l f) := by
 unfold Hr Ev C8;simp only [hk, decide_true, Bool.true_and];congr 1;exact decide_eq_decide.2 ⟨Eq.symm, Eq.symm⟩
theorem Aos {l : List Evt} {e : Evt} (h : Val l) (ha : Acc (A8 l) e) :
 Cz (l ++ [e]) (l ++ [e]) = if e.kind = 1 ∨ e.kind = 2 then Qr (Cz l l) (Fv e (Aj e)) else if e.kind = 7 then Qr (Fj e (Cz l l) (Cz l l)) (Fv e (Ax e)) else if e.kind = 6 then Fj e (Cz l l) (Cz l l) else Cz l l := by
 have hn := h.nod;have hn2 : NodE (l ++ [e]) := by
  unfold NodE;rw [List.map_append, List.nodup_append];refine ⟨hn, by simp, fun a hm b hb q => ?_⟩;obtain ⟨f, hf, rfl⟩ := List.mem_map.1 hm;simp at hb;exact Gr h ha f hf (by rw [q, hb])
 obtain ⟨s1, m1⟩ := S9 (l := l) l hn;obtain ⟨s2, m2⟩ := S9 (l := l ++ [e]) (l ++ [e]) hn2;have hlook : ∀ {m : List Ent}, (∀ x ∈ m, ∃ f ∈ l, x.id = Aj f) → Hl m (Aj e) = none := fun hm => F9.2 fun x hx q => by
  obtain ⟨f, hf, hi⟩ := hm x hx;exact Gr h ha f hf (by rw [← hi, q])
 have hadd : ∀ {m : List Ent} {o : Bo}, Dk m → (∀ x ∈ m, ∃ f ∈ l, x.id = Aj f) → Dk (Qr m (Fv e o)) ∧ ∀ x, x ∈ Qr m (Fv e o) ↔ x = Fv e o ∨ x ∈ m := fun {m o} hs hm => by
  have hl := hlook hm;have e1 : Qr m (Fv e o) = Ph m (Fv e o) := by unfold Qr; rw [if_neg (by rw [show Rl m (Fv e o).id = false from Alb.2 hl]; simp)]
  rw [e1];exact ⟨Wh hs hl, fun x => Ab6⟩
 have hold : ∀ x ∈ Cz l l, ∃ f ∈ l, x.id = Aj f := fun x hx => by
  obtain ⟨f, hf, _, rfl⟩ := (m1 x).1 hx; exact ⟨f, hf, rfl⟩
 have hgone := Mm (e := e) s1 (Cz l l);have hgeq := At6 (e := e) s1;have hgold : ∀ x ∈ Fj e (Cz l l) (Cz l l), ∃ f ∈ l, x.id = Aj f := fun x hx => by
  rw [hgeq] at hx;obtain ⟨y, hy, rfl⟩ := List.mem_map.1 hx;obtain ⟨f, hf, hi⟩ := hold y hy;refine ⟨f, hf, ?_⟩;split <;> exact hi
 have mG : (e.kind = 6 ∨ e.kind = 7) → ∀ x, x ∈ Fj e (Cz l l) (Cz l l) ↔ ∃ f ∈ l, mkB f = true ∧ x = C8 (l ++ [e]) f := fun hk x => by
  rw [hgeq, List.mem_map];constructor
  · rintro ⟨y, hy, rfl⟩;obtain ⟨f, hf, hm, rfl⟩ := (m1 y).1 hy;exact ⟨f, hf, hm, by rw [Xu, Xn l e f hk]⟩
  · rintro ⟨f, hf, hm, rfl⟩;exact ⟨C8 l f, (m1 _).2 ⟨f, hf, hm, rfl⟩, by rw [Xu, Xn l e f hk]⟩
 have mN : ¬ (e.kind = 6 ∨ e.kind = 7) → ∀ x, x ∈ Cz l l ↔ ∃ f ∈ l, mkB f = true ∧ x = C8 (l ++ [e]) f := fun hk x => by
  rw [m1];have : ∀ f, C8 (l ++ [e]) f = C8 l f := fun f => by
   rw [Xu, if_neg (by unfold Hr; simp [hk])]
  exact ⟨fun ⟨f, a, b, c⟩ => ⟨f, a, b, by rw [this, c]⟩, fun ⟨f, a, b, c⟩ => ⟨f, a, b, by rw [← this, c]⟩⟩
 have grow : ∀ x : Ent, (∃ f ∈ l ++ [e], mkB f = true ∧ x = C8 (l ++ [e]) f) ↔ (mkB e = true ∧ x = Fv e (Ez e)) ∨ (∃ f ∈ l, mkB f = true ∧ x = C8 (l ++ [e]) f) := fun x => by
  rw [← Auy h ha];simp only [List.mem_append, List.mem_singleton];constructor
  · rintro ⟨f, hf | rfl, h⟩
    · exact .inr ⟨f, hf, h⟩
    · exact .inl h
  · rintro (h | ⟨f, hf, h⟩)
    · exact ⟨e, .inr rfl, h⟩
    · exact ⟨f, .inl hf, h⟩
 by_cases h12 : e.kind = 1 ∨ e.kind = 2
 · rw [if_pos h12];have hm : mkB e = true := decide_eq_true (by omega);have ho : Ez e = Aj e := if_neg (by omega);obtain ⟨a1, a2⟩ := hadd (o := Aj e) s1 hold;refine Oq s2 a1 fun x => ?_;rw [m2, grow, a2, mN (by omega), ho];simp [hm]
 rw [if_neg h12];by_cases h7 : e.kind = 7
 · rw [if_pos h7];have hm : mkB e = true := decide_eq_true (by omega);have ho : Ez e = Ax e := if_pos h7;obtain ⟨a1, a2⟩ := hadd (o := Ax e) hgone hgold;refine Oq s2 a1 fun x => ?_;rw [m2, grow, a2, mG (.inr h7), ho];simp [hm]
 rw [if_neg h7];have hm : mkB e = false := decide_eq_false (by omega);by_cases h6 : e.kind = 6
 · rw [if_pos h6];refine Oq s2 hgone fun x => ?_;rw [m2, grow, mG (.inl h6)];simp [hm]
 · rw [if_neg h6];refine Oq s2 s1 fun x => ?_;rw [m2, grow, mN (by omega)];simp [hm]
end Go.Proofs.YthiamojjhdcegaaGreat.Fw
