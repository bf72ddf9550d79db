/- Loops, calls and loops over functions of the small language do in the model what their meaning tells. -/
import Derived.Test.YtannaphhhkncoaaGreatFwC
set_option linter.unusedVariables false
set_option linter.unusedSimpArgs false
set_option linter.unusedSectionVars false
namespace Go.Proofs.YtannaphhhkncoaaGreat.Fw
open Go.RowKit
variable {P : Program} {F : Fr} {N : Nat} {ρ ρ' : Nat → Value} {s : FS} {a : Act} {w w' : World} {V V' : View}
def C4 : Nat → List SV → List (Nat × SV)
 | _, [] => []
 | k, x :: l => (k, x) :: C4 (k + 1) l
inductive Rv where
 | t (n : Nat)
 | c (a size : Nat) (ag : Bool)
def Kf (s : FS) : List Rv → (List SV → Prop) → Prop
 | [], K => K []
 | .t n :: rs, K => Kf s rs fun l => K (s.t n :: l)
 | .c a size ag :: rs, K => G8 s.h size ag (s.t a) fun x u => u = [] ∧ Kf s rs fun l => K (x :: l)
def one : List SV → SV
 | [x] => x
 | l => .tup l
def A7f (rs : List Rv) (R : SV → FS → Prop) : Ch
 | .normal, s => Kf s rs fun l => R (one l) s
 | .ret, s => Kf s rs fun l => R (one l) s
 | _, _ => False
def Wi (rs : List Rv) (R : SV → FS → Prop) (s : FS) : Prop := ∃ s', Wk s s' ∧ Kf s' rs fun l => R (one l) s'
def Yh (rs : List Rv) (R : SV → FS → Prop) : Ch
 | .normal, s => Wi rs R s
 | .ret, s => Wi rs R s
 | _, _ => False
def Yi (rs : List Rv) (R : SV → (Nat → Option Blk) → Prop) : Ch := A7f rs fun y s => R y s.h
def Abe (P : Program) : ResultVar → Option Rv
 | .tmp t => if t < Eo then some (.t t) else none
 | .cell a t => match Ap P t, Fq P t with
   | some sz, some ag => if sz = 0 ∨ Eo ≤ a then none else some (.c a sz ag)
   | _, _ => none
def Bf (P : Program) (f : Nat) : Option (Nat × List Rv × C) := match P.funcs[f]? with
 | some fn => match fn.body, Av (fn.results.toList.map (Abe P)) with
   | some code, some rs => if fn.name = "runtime.NumGoroutine" ∨ Eo < fn.ntmps then none else (Bn P fn.ntmps code).map fun c => (fn.ntmps, rs, c)
   | _, _ => none
 | none => none
theorem O2 {f : Nat} {rs : List Rv} {c : C} (h : Bf P f = some (N, rs, c)) : ∃ fn code, P.funcs[f]? = some fn ∧ fn.name ≠ "runtime.NumGoroutine" ∧ fn.body = some code ∧ fn.ntmps = N ∧ Av (fn.results.toList.map (Abe P)) = some rs ∧ Bn P N code = some c := by
 unfold Bf at h;split at h
 · rename_i fn hf;split at h
   · rename_i code rs' hb hr;split at h
     · cases h
     · rename_i hn;obtain ⟨c', hc, e⟩ := Option.map_eq_some_iff.1 h;cases e;exact ⟨fn, code, hf, fun e => hn (.inl e), hb, rfl, hr, hc⟩
   · cases h
 · cases h
theorem Rs {f : Nat} {rs : List Rv} {c : C} (h : Bf P f = some (N, rs, c)) : N ≤ Eo := by
 unfold Bf at h;split at h
 · split at h
   · split at h
     · cases h
     · rename_i hn;obtain ⟨c', hc, e⟩ := Option.map_eq_some_iff.1 h;cases e;exact Nat.le_of_not_lt fun e => hn (.inr e)
   · cases h
 · cases h
theorem Ao4 {t : TypeId} {x v : Value} (h : (Instr.loadAt t x).run P w = .ok v w) : (do loadVar t (← asAddr x) : Sem Value).run P w = .ok v w := by
 unfold Instr.loadAt at h;cases x <;> first | exact h | skip
 all_goals first | (rename_i o; cases o <;> first | exact h | (cases h)) | (cases h)
theorem Akf (tmps : Array Value) (g : ResultVar → Sem Value) (hg : ∀ t, g (.tmp t) = pure (tmps.getD t undef)) (hg' : ∀ a t v, (Instr.loadAt t (tmps.getD a undef)).run P w = .ok v w → (g (.cell a t)).run P w = .ok v w) (hR : RelR F N ρ s a w) (ht : a.tmps = tmps) :
 ∀ (vars : List ResultVar) (rs : List Rv) (K : List SV → Prop) (acc : Array Value), Av (vars.map (Abe P)) = some rs → Kf s rs K →
  ∃ l vs, K l ∧ ConcL (vw F w ρ s) ρ l vs ∧ (List.foldlM (fun (bs : Array Value) r => bs.push <$> g r) acc vars).run P w = .ok (acc ++ (⟨vs⟩ : Array Value)) w
 | [], rs, K, acc, h, hk => by
   simp only [List.map_nil, Av, Option.some.injEq] at h;subst h;exact ⟨[], [], hk, by simp only [ConcL], by simp⟩
 | x :: vars, rs, K, acc, h, hk => by
   obtain ⟨r, rs', rfl, h1, h2⟩ := A9 (show Av (Abe P x :: vars.map (Abe P)) = some rs from h);have key : ∀ (v : Value) (y : SV), (g x).run P w = .ok v w → Conc (vw F w ρ s) ρ y v → (Kf s rs' fun l => K (y :: l)) →
    ∃ l vs, K l ∧ ConcL (vw F w ρ s) ρ l vs ∧ (List.foldlM (fun (bs : Array Value) r => bs.push <$> g r) acc (x :: vars)).run P w = .ok (acc ++ (⟨vs⟩ : Array Value)) w := fun v y hv hy hk' => by
    obtain ⟨l, vs, k1, k2, k3⟩ := Akf tmps g hg hg' hR ht vars rs' _ (acc.push v) h2 hk';refine ⟨y :: l, v :: vs, k1, by simp only [ConcL]; exact ⟨v, vs, rfl, hy, k2⟩, ?_⟩;rw [List.foldlM_cons];have : (acc.push <$> g x : Sem (Array Value)).run P w = .ok (acc.push v) w := by
     rw [← bind_pure_comp];rw [Ab hv]; rfl
    rw [Ab this, k3];congr 1;exact Array.toList_inj.1 (by simp)
   cases x with
   | tmp t =>
     simp only [Abe] at h1;split at h1
     · rename_i hb;simp only [Option.some.injEq] at h1;subst h1;simp only [Kf] at hk;refine key (tmps.getD t undef) (s.t t) (by rw [hg]; rfl) ?_ hk;rw [← ht]; exact hR.tm t hb
     · cases h1
   | cell b t =>
     simp only [Abe] at h1;split at h1
     · rename_i sz ag hsz hag;split at h1
       · cases h1
       · rename_i hne;simp only [Option.some.injEq] at h1;subst h1;simp only [Kf] at hk;obtain ⟨v, y, g1, g2, g3⟩ := A1o (P := P) hR (hR.tm b (by omega)) (by omega) hsz hag hk;exact key v y (hg' b t v (by rw [← ht]; exact g1)) g3 g2.2
     · cases h1
theorem T1 {fn : Func} {rs : List Rv} (hR : RelR F N ρ s a w) (h : Av (fn.results.toList.map (Abe P)) = some rs) {K : List SV → Prop} (hk : Kf s rs K) :
 ∃ l v, K l ∧ Conc (vw F w ρ s) ρ (one l) v ∧ (results fn a.tmps).run P w = .ok v w := by
 unfold results;rw [Array.mapM_eq_foldlM];rw [← Array.foldlM_toList];obtain ⟨l, vs, h1, h2, h3⟩ := Akf (P := P) a.tmps (fun x => match x with
  | .tmp t => pure (a.tmps.getD t undef)
  | .cell b t => do loadVar t (← asAddr (a.tmps.getD b undef))) (fun _ => rfl) (fun b t v hv => Ao4 hv) hR rfl fn.results.toList rs K #[] h hk
 refine ⟨l, _, h1, ?_, (Ab h3).trans rfl⟩;cases l with
 | nil => simp only [ConcL] at h2; subst h2; simp only [one, Conc]; exact ⟨[], rfl, by simp only [ConcL]⟩
 | cons x l =>
   simp only [ConcL] at h2;obtain ⟨v, us, rfl, h4, h5⟩ := h2;cases l with
   | nil => simp only [ConcL] at h5; subst h5; simpa [one] using h4
   | cons y l =>
     have h5' := h5;simp only [ConcL] at h5;obtain ⟨v', us', rfl, h6, h7⟩ := h5;simp only [one, Conc];refine ⟨v :: v' :: us', ?_, by simp only [ConcL]; exact ⟨v, _, rfl, h4, v', us', rfl, h6, h7⟩⟩;simp
theorem Hq : ∀ {args : List SV} {vs : List Value} (k : Nat) (n : Nat), ConcL V ρ args vs → Conc V ρ (lk .dead n (C4 k args)) (if k ≤ n then (vs[n - k]?).getD undef else undef)
 | [], vs, k, n, h => by simp [C4, lk, Conc]
 | x :: l, vs, k, n, h => by
   simp only [ConcL] at h;obtain ⟨v, us, rfl, h1, h2⟩ := h;simp only [C4, lk];split
   · rename_i e; subst e; simp; exact h1
   · rename_i e;have := Hq (k + 1) n h2;by_cases hk : k ≤ n
     · have hk' : k + 1 ≤ n := by omega
       rw [if_pos hk'] at this;rw [if_pos hk];have : n - k = (n - (k + 1)) + 1 := by omega
       rw [this]; simpa using Hq (k + 1) n h2 |> fun q => by rw [if_pos hk'] at q; exact q
     · rw [if_neg (by omega)] at this;rw [if_neg hk]; exact this
theorem RelR.obj (h : RelR F N ρ s a w) {l : Nat} {o : Obj} (o' : Obj) (hl : w.heap[l]? = some o) (ho : o.isCells = false) (hlt : l < F.w0.heap.size) (hM : ¬ F.M0 l) : RelR { F with w0 := F.w0.putObj l o' } N ρ s a (w.putObj l o') := by
 have hlw : l < w.heap.size := (Array.getElem?_eq_some_iff.1 hl).1;have hne : ∀ b, Ck ρ s.h b → b ≠ l := fun b hb e => by
  subst e;rcases h.may b hb with h1 | h1
  · omega
  · exact hM h1
 have hV : (Az w (F.out ρ s.h)).le (Az (w.putObj l o') (F.out ρ s.h)) := Bi fun b c ho' hc => by
  refine ⟨ho', ?_⟩;have : b ≠ l := fun e => by
   subst e;unfold Dd at hc;rw [hl] at hc;cases o <;> simp_all [Obj.isCells]
  rw [C3 (World.putObj_heap_other this)]; exact hc
 refine ⟨⟨h.fr.os, h.fr.tape, h.fr.output, by simpa using h.fr.size, fun b hb hm => ?_, fun b hb => by simpa using h.fr.hid b hb, ⟨fun p hp => ?_, h.fr.tab.2⟩⟩, fun b hb => by simpa using h.may b hb, fun n x hx => ?_, h.inj, fun n => (h.tmps n).mono hV, h.size, h.defers⟩
 · by_cases e : b = l
   · subst e;rw [World.putObj_heap_same hlw, World.putObj_heap_same hlt]
   · rw [World.putObj_heap_other e, World.putObj_heap_other e];exact h.fr.block b (by simpa using hb) hm
 · have h1 := h.fr.tab.1 p hp;have : p.1 ≠ l := fun e => by
    rw [e] at h1;unfold Dd at h1;rw [← h.fr.block l hlt hM, hl] at h1;cases o <;> simp_all [Obj.isCells]
   show Dd (F.w0.putObj l o') p.1 = _;rw [C3 (World.putObj_heap_other this)]; exact h1
 · exact (h.own n x hx).congr hV fun b hb => World.putObj_heap_other (hne b ⟨n, x, hx, hb⟩)
theorem Desc.back {F0 : Fr} (hd : Desc F0 F) (h : RelR F N ρ s a w) (h0 : F0.defs = []) : RelR F0 N ρ s ⟨a.tmps, []⟩ w := by
 have ho : F.out ρ s.h = F0.out ρ s.h := by unfold Fr.out; rw [hd.hid]
 have hb := hd.base;refine ⟨⟨h.fr.os.trans hb.os, h.fr.tape.trans hb.tape, h.fr.output.trans hb.output, Nat.le_trans hb.size h.fr.size, fun b hlt hm => ?_, hb.hid, hb.tab⟩, fun b hbb => hd.may b (h.may b hbb), fun n x hx => by rw [← ho]; exact h.own n x hx, h.inj, fun n => ?_, h.size, h0.symm⟩
 · rw [h.fr.block b (Nat.lt_of_lt_of_le hlt hb.size) fun e => ?_]
   · exact hb.block b hlt hm
   · rcases hd.may b (.inr e) with h1 | h1
     · omega
     · exact hm h1
 · rw [← ho];have := h.tmps n;unfold Fr.val at this ⊢;rw [← hd.x]; exact this
theorem Desc.refl {F0 : Fr} (hR : F0.ok F0.w0) (hm : ∀ b, F0.M0 b → b < F0.w0.heap.size) (h0 : F0.defs = []) : Desc F0 F0 := ⟨hR, hm, fun _ h => h, rfl, rfl, by rw [h0]; trivial⟩
theorem Xb {fn : Func} {rs : List Rv} (h5 : Av (fn.results.toList.map (Abe P)) = some rs) {F0 : Fr} (h0 : F0.defs = []) {R : Ending → World → Prop} {tm : Array Value} {K : List SV → Prop} (hk : Kf s rs K)
 (hend : ∀ l v w, K l → RelR F0 N ρ s ⟨tm, []⟩ w → Conc (vw F0 w ρ s) ρ (one l) v → R (.returned v) w) :
 ∀ (ds : List Deferred) {F : Fr} {w : World}, Desc F0 { F with defs := [] } → Ag1 F0 F ds → RelR { F with defs := [] } N ρ s ⟨tm, []⟩ w → LeavesInM (Gd none) 0 P fn tm R ds .returning w
 | [], F, w, hd, _, hR => by
   have hR' := hd.back hR h0;obtain ⟨l, v, k1, k2, k3⟩ := T1 (P := P) hR' h5 hk;exact ⟨v, k3, hend l v w k1 hR' k2⟩
 | d :: ds, F, w, hd, hm, hR => by
   obtain ⟨⟨D, rfl, g1, g2, g3, g4, g5⟩, hm⟩ := hm;have hw : w.heap[D]? = some (.deferred (some [])) := (hR.fr.block D g2 g3).trans g4;refine ⟨by simp, .inl ⟨D, _, rfl, run_takeDeferred hw, ?_⟩⟩;have hR2 := hR.obj (.deferred none) hw rfl g2 g3;refine Xb h5 h0 hk hend ds (F := { F with w0 := F.w0.putObj D (.deferred none) }) ⟨?_, fun b hb => by simpa using hd.m0 b hb, fun b hb => hd.may b (by simpa using hb), hd.hid, hd.x, trivial⟩ ?_ hR2
   · have hb := hd.base;refine ⟨hb.os, hb.tape, hb.output, by simpa using hb.size, fun b hlt hm => ?_, hb.hid, hb.tab⟩;show (F.w0.putObj D (.deferred none)).heap[b]? = _;rw [World.putObj_heap_other (by omega)];exact hb.block b hlt hm
   · clear hR hR2 hw
     induction ds with
     | nil => trivial
     | cons e ds ih =>
       obtain ⟨⟨E, rfl, k1, k2, k3, k4, k5⟩, hm⟩ := hm;have hne : E ≠ D := fun h => g5 _ List.mem_cons_self (by rw [h]);exact ⟨⟨E, rfl, k1, by simpa using k2, k3, by rw [World.putObj_heap_other hne]; exact k4, k5⟩, ih hm (fun e he => g5 e (List.mem_cons_of_mem _ he))⟩
theorem Qf (hm : P.follows .mixedOrders = true) {f N' : Nat} {rs : List Rv} {c : C} (hf : Bf P f = some (N', rs, c)) {F0 : Fr} {s0 : FS} {vs : List Value} (h0 : F0.defs = []) (hok : F0.ok F0.w0) (hm0 : ∀ b, F0.M0 b → b < F0.w0.heap.size)
 (hR : RelR F0 N' ρ s0 { tmps := (⟨vs⟩ : Array Value) ++ Array.replicate (N' - (⟨vs⟩ : Array Value).size) undef, defers := [] } w) {R : SV → FS → Prop} {Q : Ch} (hQ : ∀ e s, Q e s → (e = .normal ∨ e = .ret) ∧ Wi rs R s) (hrun : sx (Z6 P F0 N') c Q s0) :
 Calls P f ⟨vs⟩ w fun e w' => ∃ v ρ' s' a' y, e = .returned v ∧ RelR F0 N' ρ' s' a' w' ∧ Conc (vw F0 w' ρ' s') ρ' y v ∧ R y s' := by
 obtain ⟨fn, code, h1, h2, h3, h4, h5, h6⟩ := O2 hf;subst h4;refine callsIn_wide.1 (callsIn_of_wp_marks (F := Gd none) (n := 0) h1 h3 trivial (wpIn_mono (Jr hm h6 hrun ⟨F0, Desc.refl hok hm0 h0, ρ, hR⟩) fun e a' w' he => ?_));have fin : (∃ s, RelX (Desc F0) fn.ntmps s a' w' ∧ Wi rs R s) → LeavesInM (Gd none) 0 P fn a'.tmps (fun e w' => ∃ v ρ' s' a' y, e = .returned v ∧ RelR F0 fn.ntmps ρ' s' a' w' ∧ Conc (vw F0 w' ρ' s') ρ' y v ∧ R y s') a'.defers .returning w' := fun ⟨s1, hX, s', hwk, hr⟩ => by
  obtain ⟨F, hd, ρ', hR'⟩ := hX.wk hwk;rw [hR'.defers];refine Xb h5 h0 hr (fun l v w k1 k2 k3 => ⟨v, ρ', s', _, _, rfl, k2, k3, k1⟩) F.defs (F := F) ⟨hd.base, hd.m0, hd.may, hd.hid, hd.x, trivial⟩ hd.marks ?_;exact ⟨⟨hR'.fr.os, hR'.fr.tape, hR'.fr.output, hR'.fr.size, hR'.fr.block, hR'.fr.hid, hR'.fr.tab⟩, hR'.may, hR'.own, hR'.inj, hR'.tmps, hR'.size, rfl⟩
 cases e with
 | normal => obtain ⟨s, h, hq⟩ := he; exact fin ⟨s, h, (hQ _ _ hq).2⟩
 | ret => obtain ⟨s, h, hq⟩ := he; exact fin ⟨s, h, (hQ _ _ hq).2⟩
 | exit id =>
   obtain ⟨s, h, hq⟩ := he;rcases (hQ _ _ hq).1 with e | e <;> cases e
 | goto _ => exact he.elim
 | panic _ => exact he.elim
 | outgrown => exact he.elim
theorem Wk.same (s : FS) : Wk s s := .weak ⟨fun n => Imp.refl _, fun n b hb => by
 rw [hb];simp only [Anw];cases b with
 | var x => exact ⟨Imp.refl _, rfl⟩
 | row sz es => exact ⟨rfl, rfl⟩
 | rowc sz es c => exact ⟨rfl, rfl, rfl⟩
 | it l p => exact ⟨rfl, rfl⟩⟩
theorem Ni {rs : List Rv} {R : SV → FS → Prop} (e : Ex) (s : FS) (h : A7f rs R e s) : (e = .normal ∨ e = .ret) ∧ Wi rs R s := by
 cases e with
 | normal => exact ⟨.inl rfl, s, .same s, h⟩
 | ret => exact ⟨.inr rfl, s, .same s, h⟩
 | exit _ => exact h.elim
theorem Wh {rs : List Rv} {R : SV → FS → Prop} (e : Ex) (s : FS) (h : Yh rs R e s) : (e = .normal ∨ e = .ret) ∧ Wi rs R s := by
 cases e with
 | normal => exact ⟨.inl rfl, h⟩
 | ret => exact ⟨.inr rfl, h⟩
 | exit _ => exact h.elim
theorem Ao0 (hm : P.follows .mixedOrders = true) {f : Nat} {rs : List Rv} {c : C} (hf : Bf P f = some (N, rs, c)) {hid : Nat → Prop} (hhid : ∀ b, hid b → b < w.heap.size) (htw : Aph w) {args : List SV} {vs : List Value} (hlen : args.length ≤ N)
 (hc : ConcL (Az w hid) ρ args vs) {R : SV → FS → Prop} {Q : Ch} (hQ : ∀ e s, Q e s → (e = .normal ∨ e = .ret) ∧ Wi rs R s) (hrun : sx (Z6 P ⟨w, fun _ => False, hid, fun _ => undef, []⟩ N) c Q (mk (C4 0 args) [])) :
 Calls P f ⟨vs⟩ w fun e w' => ∃ v ρ' s' a' y, e = .returned v ∧ RelR ⟨w, fun _ => False, hid, fun _ => undef, []⟩ N ρ' s' a' w' ∧ Conc (vw ⟨w, fun _ => False, hid, fun _ => undef, []⟩ w' ρ' s') ρ' y v ∧ R y s' := by
 obtain ⟨fn, code, h1, h2, h3, h4, h5, h6⟩ := O2 hf;subst h4;have hN := Rs hf;have hvl : vs.length = args.length := by
  clear hrun hlen
  induction args generalizing vs with
  | nil => simp only [ConcL] at hc; subst hc; rfl
  | cons x l ih =>
    simp only [ConcL] at hc;obtain ⟨v, us, rfl, _, h⟩ := hc;simp [ih h]
 have hR : RelR ⟨w, fun _ => False, hid, fun _ => undef, []⟩ fn.ntmps ρ (mk (C4 0 args) []) { tmps := (⟨vs⟩ : Array Value) ++ Array.replicate (fn.ntmps - (⟨vs⟩ : Array Value).size) undef, defers := [] } w := by
  have how : ∀ b, ¬ Ck ρ (mk (C4 0 args) []).h b := fun b ⟨n, x, h, _⟩ => by simp [mk, lk] at h
  have hV : (Az w hid).le (Az w ((⟨w, fun _ => False, hid, fun _ => undef, []⟩ : Fr).out ρ (mk (C4 0 args) []).h)) :=
   Bi fun b c ho hc => ⟨fun hb => hb.elim (how b) ho, hc⟩
  refine ⟨⟨rfl, rfl, rfl, Nat.le_refl _, fun _ _ _ => rfl, fun b hb => ⟨hhid b hb, id⟩, ⟨htw, fun _ _ => id⟩⟩, fun b hb => absurd hb (how b), fun n x hx => by simp [mk, lk] at hx, fun n m x y b hx => by simp [mk, lk] at hx, fun n => ?_, by simp; omega, rfl⟩;have := (Hq 0 n hc).mono hV;simp only [Nat.zero_le, if_true, Nat.sub_zero] at this;simp only [mk];have he : ((⟨vs⟩ : Array Value) ++ Array.replicate (fn.ntmps - (⟨vs⟩ : Array Value).size) undef).getD n undef = (vs[n]?).getD undef := by
   rw [Array.getD_eq_getD_getElem?];by_cases hn : n < vs.length
   · rw [Array.getElem?_append_left (by simpa using hn)]; simp
   · rw [Array.getElem?_append_right (by simpa using hn)];rw [List.getElem?_eq_none (by omega)];simp only [Array.getElem?_replicate, Option.getD_none];split <;> rfl
  unfold Fr.val;by_cases hb : n < Eo
  · rw [if_pos hb, he]; exact this
  · rw [if_neg hb];rw [List.getElem?_eq_none (by omega)] at this; exact this
 exact Qf hm hf rfl (by exact ⟨rfl, rfl, rfl, Nat.le_refl _, fun _ _ _ => rfl, fun b hb => ⟨hhid b hb, id⟩, ⟨htw, fun _ _ => id⟩⟩) (fun b (h : False) => h.elim) hR hQ hrun
end Go.Proofs.YtannaphhhkncoaaGreat.Fw
namespace Go.Proofs.YtannaphhhkncoaaGreat.Fw
open Go.RowKit
variable {P : Program} {F : Fr} {N : Nat} {ρ ρ' : Nat → Value} {s : FS} {a : Act} {w w' : World} {V V' : View}
mutual
def SV.closed : SV → Bool
 | .pv _ => true
 | .vec _ _ => true
 | .agg l => SV.closedL l
 | .tup l => SV.closedL l
 | .pi _ _ _ _ => true
 | .fn _ l => SV.closedL l
 | .dead => true
 | _ => false
def SV.closedL : List SV → Bool
 | [] => true
 | x :: l => x.closed && SV.closedL l
end
mutual
theorem Bz (hV : V.le V') : ∀ {x : SV} {v : Value}, x.closed = true → Conc V ρ x v → Conc V' ρ' x v
 | .pv x, v, _, h => by simp only [Conc] at *; exact h.mono hV
 | .vec n cs, v, _, h => by simp only [Conc] at *; obtain ⟨vs, a, b, c⟩ := h; exact ⟨vs, a, b, c.mono hV⟩
 | .agg l, v, hc, h => by simp only [Conc, SV.closed] at *; obtain ⟨vs, a, b⟩ := h; exact ⟨vs, a, Iu hV hc b⟩
 | .tup l, v, hc, h => by simp only [Conc, SV.closed] at *; obtain ⟨vs, a, b⟩ := h; exact ⟨vs, a, It hV hc b⟩
 | .pi sz es i off, v, _, h => by
   have := Conc.mono (ρ := ρ) hV h;simp only [Conc] at *; exact this
 | .fn f l, v, hc, h => by simp only [Conc, SV.closed] at *; obtain ⟨vs, a, b⟩ := h; exact ⟨vs, a, It hV hc b⟩
 | .dead, v, _, h => by simp only [Conc]
 | .p _ _, v, hc, h => by simp [SV.closed] at hc
 | .ps _ _, v, hc, h => by simp [SV.closed] at hc
 | .pr _ _ _ _, v, hc, h => by simp [SV.closed] at hc
 | .os _, v, hc, h => by simp [SV.closed] at hc
 | .ov _ _ _ _, v, hc, h => by simp [SV.closed] at hc
theorem It (hV : V.le V') : ∀ {l : List SV} {vs : List Value}, SV.closedL l = true → ConcL V ρ l vs → ConcL V' ρ' l vs
 | [], vs, _, h => by simp only [ConcL] at *; exact h
 | x :: l, vs, hc, h => by
   simp only [ConcL, SV.closedL, Bool.and_eq_true] at *;obtain ⟨u, us, a, b, c⟩ := h;exact ⟨u, us, a, Bz hV hc.1 b, It hV hc.2 c⟩
theorem Iu (hV : V.le V') : ∀ {l : List SV} {vs : List Value}, SV.closedL l = true → Cells V ρ l vs → Cells V' ρ' l vs
 | [], vs, _, h => by simp only [Cells] at *; exact h
 | x :: l, vs, hc, h => by
   simp only [Cells, SV.closedL, Bool.and_eq_true] at *;obtain ⟨u, us, a, b, c, d, e⟩ := h;exact ⟨u, us, a, Bz hV hc.1 b, c, d, Iu hV hc.2 e⟩
end
def PV.flat : PV → Bool
 | .sl _ _ es => es.isEmpty
 | _ => true
mutual
def SV.scalar : SV → Bool
 | .pv x => x.flat
 | .vec _ cs => cs.all PV.flat
 | .agg l => SV.scalarL l
 | .tup l => SV.scalarL l
 | _ => false
def SV.scalarL : List SV → Bool
 | [] => true
 | x :: l => x.scalar && SV.scalarL l
end
theorem O3 {x : PV} {v : Value} (hf : x.flat = true) (h : PConc V x v) : PConc V' x v := by
 cases h with
 | i k n => exact .i k n
 | b x => exact .b x
 | s l => exact .s l
 | v _ h => exact .v _ h
 | sl full sz es a cap cs bl off arr hcap hfull hsz ha hcs hel =>
   have he : es = [] := by cases es <;> simp_all [PV.flat]
   subst he;exact .sl full sz [] a cap cs bl off arr hcap hfull hsz (fun h => absurd rfl h) hcs (fun i j c x h => by simp at h)
theorem Jh {cs : List PV} {vs : List Value} (hf : cs.all PV.flat = true) (h : PCells V cs vs) : PCells V' cs vs :=
 ⟨h.1, fun j x hx => by
  obtain ⟨v, h1, h2⟩ := h.2 j x hx;exact ⟨v, h1, O3 (List.all_eq_true.1 hf x (List.mem_of_getElem? hx)) h2⟩⟩
mutual
theorem E3 : ∀ {x : SV} {v : Value}, x.scalar = true → Conc V ρ x v → Conc V' ρ' x v
 | .pv x, v, hc, h => by
   simp only [Conc, SV.scalar] at hc h ⊢;exact O3 hc h
 | .vec n cs, v, hc, h => by
   simp only [Conc, SV.scalar] at hc h ⊢;obtain ⟨vs, a, b, c⟩ := h;exact ⟨vs, a, b, Jh hc c⟩
 | .agg l, v, hc, h => by simp only [Conc, SV.scalar] at *; obtain ⟨vs, a, b⟩ := h; exact ⟨vs, a, Qu hc b⟩
 | .tup l, v, hc, h => by simp only [Conc, SV.scalar] at *; obtain ⟨vs, a, b⟩ := h; exact ⟨vs, a, Qt hc b⟩
 | .pi _ _ _ _, v, hc, h => by simp [SV.scalar] at hc
 | .fn _ _, v, hc, h => by simp [SV.scalar] at hc
 | .dead, v, hc, h => by simp [SV.scalar] at hc
 | .p _ _, v, hc, h => by simp [SV.scalar] at hc
 | .ps _ _, v, hc, h => by simp [SV.scalar] at hc
 | .pr _ _ _ _, v, hc, h => by simp [SV.scalar] at hc
 | .os _, v, hc, h => by simp [SV.scalar] at hc
 | .ov _ _ _ _, v, hc, h => by simp [SV.scalar] at hc
theorem Qt : ∀ {l : List SV} {vs : List Value}, SV.scalarL l = true → ConcL V ρ l vs → ConcL V' ρ' l vs
 | [], vs, _, h => by simp only [ConcL] at *; exact h
 | x :: l, vs, hc, h => by
   simp only [ConcL, SV.scalarL, Bool.and_eq_true] at *;obtain ⟨u, us, a, b, c⟩ := h;exact ⟨u, us, a, E3 hc.1 b, Qt hc.2 c⟩
theorem Qu : ∀ {l : List SV} {vs : List Value}, SV.scalarL l = true → Cells V ρ l vs → Cells V' ρ' l vs
 | [], vs, _, h => by simp only [Cells] at *; exact h
 | x :: l, vs, hc, h => by
   simp only [Cells, SV.scalarL, Bool.and_eq_true] at *;obtain ⟨u, us, a, b, c, d, e⟩ := h;exact ⟨u, us, a, E3 hc.1 b, c, d, Qu hc.2 e⟩
end
def Asy (x : SV) (off : Nat) : Option (List PV) → SV
 | some cs => .pi x.width [cs] 0 off
 | none => .dead
mutual
def Ir (h : Nat → Option Blk) : SV → SV
 | .os n => match h n with
   | some (.row sz es) => .pv (.sl false sz es)
   | _ => .dead
 | .p n off => match h n with
   | some (.var x) => Asy x off x.cells?
   | _ => .dead
 | .fn f l => .fn f (Ct h l)
 | x => x
def Ct (h : Nat → Option Blk) : List SV → List SV
 | [] => []
 | x :: l => Ir h x :: Ct h l
end
mutual
def Mz : SV → Bool
 | .os _ => true
 | .p _ _ => true
 | .fn _ l => Bc l
 | x => x.closed
def Bc : List SV → Bool
 | [] => true
 | x :: l => Mz x && Bc l
end
mutual
def Xa : SV → List Nat
 | .os n => [n]
 | .p n _ => [n]
 | .fn _ l => Du l
 | _ => []
def Du : List SV → List Nat
 | [] => []
 | x :: l => Xa x ++ Du l
end
def C1 (s : FS) (ns : List Nat) : FS := ⟨s.t, fun n => if n ∈ ns then none else s.h n⟩
theorem Zw (h : Nat → Option Blk) : ∀ l : List SV, (Ct h l).length = l.length
 | [] => by simp only [Ct]
 | x :: l => by simp only [Ct, List.length_cons, Zw h l]
theorem Lj (s : FS) (ns : List Nat) : Weak s (C1 s ns) := ⟨fun n => .refl _, fun n b' hb => by
 simp only [C1] at hb;split at hb
 · cases hb
 · rw [hb]; simp only [Anw];cases b' with
   | var x => exact ⟨.refl _, rfl⟩
   | row sz es => exact ⟨rfl, rfl⟩
   | rowc sz es c => exact ⟨rfl, rfl, rfl⟩
   | it l p => exact ⟨rfl, rfl⟩⟩
theorem Gb (F : Fr) (w : World) (ρ : Nat → Value) (s : FS) (ns : List Nat) : (vw F w ρ s).le (vw F w ρ (C1 s ns)) := Bi fun b c ho hc => ⟨fun hb => ho (hb.imp_left fun ⟨n, x, h1, h2⟩ => by
 simp only [C1] at h1;split at h1
 · cases h1
 · exact ⟨n, x, h1, h2⟩), hc⟩
mutual
theorem Anh (hR : RelR F N ρ s a w) {h : Nat → Option Blk} {ns : List Nat} : ∀ {x : SV} {v : Value}, Mz x = true → (∀ n ∈ tn x, s.h n = h n) → (∀ n ∈ Xa x, n ∈ ns) →
 Conc (vw F w ρ s) ρ x v → Conc (vw F w ρ (C1 s ns)) ρ (Ir h x) v
 | .os n, v, hl, hh, hn, h1 => by
   simp only [Ir];have hhn := hh n (by simp [tn]);have hns := hn n (by simp [Xa]);split
   · rename_i sz es hrow;rw [← hhn] at hrow;simp only [Conc] at h1 ⊢;rw [h1.1];have := Lu hR hrow;refine this.mono (Bi fun b c ho hc => ⟨fun hb => ho (hb.imp_left fun ⟨m, x, g1, g2⟩ => ?_), hc⟩);simp only [C1] at g1;split at g1
     · cases g1
     · rename_i hm;refine ⟨m, x, ?_, g2⟩;simp only [FS.seth];rw [if_neg fun e => hm (by rw [e]; exact hns)];exact g1
   · simp only [Conc]
 | .p n off, v, hl, hh, hn, h1 => by
   simp only [Ir];have hhn := hh n (by simp [tn]);have hns := hn n (by simp [Xa]);split
   · rename_i x hvar;rw [← hhn] at hvar;cases hcs : x.cells? with
     | none => simp only [Asy, Conc]
     | some cs =>
       simp only [Conc] at h1;obtain ⟨b, hb, rfl⟩ := h1;obtain ⟨b', vs, ty, fr, u, k1, k2, k3, k4, k5, k6, k7⟩ := hR.own n _ hvar;rw [k1] at hb;simp only [Value.pointer.injEq, Option.some.injEq, Addr.mk.injEq, and_true] at hb;subst hb;have hp := Conc.cells k4 hcs;simp only [Asy, Conc];refine ⟨b', 0, ⟨vs⟩, by simp, ?_, fun c hc => ?_⟩
       · unfold vw Az;rw [if_neg]
         · unfold Dd; rw [k2]
         · rintro (⟨m, y, g1, g2⟩ | g)
           · simp only [C1] at g1;split at g1
             · cases g1
             · rename_i hm;exact hm ((hR.inj m n y _ b' g1 hvar g2 (by rw [k1]; rfl)) ▸ hns)
           · exact hR.shown ⟨n, _, hvar, by rw [k1]; rfl⟩ g
       · simp only [List.getElem?_cons_zero, Option.some.injEq] at hc;subst hc;have hl : cs.length = x.width := by rw [hp.1, ← k5]; exact k6
         refine ⟨hl, ?_⟩;have e : (vs.drop (0 + 0 * x.width)).take x.width = vs := by simp [k6 ▸ List.take_length]
         rw [e, k5];exact hp.mono (Gb F w ρ s ns)
   · simp only [Conc]
 | .fn f l, v, hl, hh, hn, h1 => by
   simp only [Ir, Conc] at *;obtain ⟨vs, rfl, h2⟩ := h1;exact ⟨vs, rfl, Mb hR (by simpa [Mz] using hl) (fun n hm => hh n (by simp only [tn]; exact hm)) (fun n hm => hn n (by simpa [Xa] using hm)) h2⟩
 | .pv x, v, hl, _, _, h1 => Bz (Gb F w ρ s ns) rfl h1
 | .vec n cs, v, hl, _, _, h1 => Bz (Gb F w ρ s ns) rfl h1
 | .agg l, v, hl, _, _, h1 => by
   have e : Ir h (.agg l) = .agg l := by simp only [Ir]
   rw [e];exact Bz (Gb F w ρ s ns) (by simpa only [Mz] using hl) h1
 | .tup l, v, hl, _, _, h1 => by
   have e : Ir h (.tup l) = .tup l := by simp only [Ir]
   rw [e];exact Bz (Gb F w ρ s ns) (by simpa only [Mz] using hl) h1
 | .pi _ _ _ _, v, hl, _, _, h1 => Bz (Gb F w ρ s ns) rfl h1
 | .dead, v, hl, _, _, h1 => Bz (Gb F w ρ s ns) rfl h1
 | .ps _ _, v, hl, _, _, h1 => by simp [Mz, SV.closed] at hl
 | .pr _ _ _ _, v, hl, _, _, h1 => by simp [Mz, SV.closed] at hl
 | .ov _ _ _ _, v, hl, _, _, h1 => by simp [Mz, SV.closed] at hl
theorem Mb (hR : RelR F N ρ s a w) {h : Nat → Option Blk} {ns : List Nat} : ∀ {args : List SV} {vs : List Value}, Bc args = true → (∀ n ∈ Bd args, s.h n = h n) → (∀ n ∈ Du args, n ∈ ns) →
 ConcL (vw F w ρ s) ρ args vs → ConcL (vw F w ρ (C1 s ns)) ρ (Ct h args) vs
 | [], vs, _, _, _, hc => by simp only [ConcL, Ct] at *; exact hc
 | x :: l, vs, hl, hh, hn, hc => by
   simp only [ConcL, Ct, Bc, Bool.and_eq_true, Du, List.mem_append] at *;obtain ⟨u, us, rfl, h1, h2⟩ := hc;exact ⟨u, us, rfl, Anh hR hl.1 (fun n hm => hh n (by simp only [Bd, List.mem_append]; exact .inl hm)) (fun n hm => hn n (.inl hm)) h1, Mb hR hl.2 (fun n hm => hh n (by simp only [Bd, List.mem_append]; exact .inr hm)) (fun n hm => hn n (.inr hm)) h2⟩
end
structure After (F : Fr) (N : Nat) (ρ : Nat → Value) (s : FS) (ns : List Nat) (a : Act) (w : World) (R : SV → FS → Prop) (v : Value) (w' : World) : Prop where
 grew : Grew w w'
 out : ∃ (N' : Nat) (ρ' : Nat → Value) (s' : FS) (a' : Act) (y : SV), RelR ⟨w, fun _ => False, F.out ρ (C1 s ns).h, fun _ => undef, []⟩ N' ρ' s' a' w' ∧ Conc (vw ⟨w, fun _ => False, F.out ρ (C1 s ns).h, fun _ => undef, []⟩ w' ρ' s') ρ' y v ∧ R y s'
theorem Dr (hm : P.follows .mixedOrders = true) {f N' : Nat} {rs : List Rv} {c : C} (hf : Bf P f = some (N', rs, c)) {args : List SV} {h : Nat → Option Blk} (hlen : args.length ≤ N') (hl : Bc args = true)
 {R : SV → FS → Prop} {Q : Ch} (hQ : ∀ e s, Q e s → (e = .normal ∨ e = .ret) ∧ Wi rs R s) (hrun : ∀ F, sx (Z6 P F N') c Q (mk (C4 0 (Ct h args)) []))
 (hR : RelR F N ρ s a w) (hh : ∀ n ∈ Bd args, s.h n = h n) {vs : List Value} (hc : ConcL (vw F w ρ s) ρ args vs) :
 Calls P f ⟨vs⟩ w fun e w' => ∃ v, e = .returned v ∧ After F N ρ s (Du args) a w R v w' := by
 have hRb := hR.weak (Lj s (Du args));have hcb := Mb hR (ns := Du args) hl hh (fun _ h => h) hc;refine Calls.mono (Ao0 hm hf (hid := F.out ρ (C1 s (Du args)).h) (fun b hb => ?_) hR.tabW (by rw [Zw]; exact hlen) hcb hQ (hrun _)) fun e w' he => ?_
 · rcases hb with hb | hb
   · exact hRb.lt hb
   · exact Nat.lt_of_lt_of_le (hR.fr.hid b hb).1 hR.fr.size
 · obtain ⟨v, ρ', s', a', y, rfl, h1, h2, h3⟩ := he;exact ⟨v, rfl, ⟨h1.fr.os, h1.fr.tape, h1.fr.output, h1.fr.size, fun b hb => h1.fr.block b hb id⟩, N', ρ', s', a', y, h1, h2, h3⟩
theorem Jk {N' : Nat} {ρ' : Nat → Value} {s' : FS} {a' : Act} (hR' : RelR ⟨w, fun _ => False, F.out ρ s.h, fun _ => undef, []⟩ N' ρ' s' a' w') : (vw ⟨w, fun _ => False, F.out ρ s.h, fun _ => undef, []⟩ w' ρ' s').le (vw F w' ρ s) :=
 Bi fun b c ho hc => ⟨fun hb => ho (.inr hb), hc⟩
mutual
theorem Ani : ∀ {x : SV}, x.closed = true → Xa x = [] ∧ Mz x = true ∧ ∀ h, Ir h x = x
 | .fn f l, hc => by
   simp only [SV.closed] at hc;obtain ⟨h1, h2, h3⟩ := Bl hc;exact ⟨by simp only [Xa]; exact h1, by simp only [Mz]; exact h2, fun h => by simp only [Ir, h3 h]⟩
 | .pv _, hc => ⟨rfl, rfl, fun h => by simp only [Ir]⟩
 | .vec _ _, hc => ⟨rfl, rfl, fun h => by simp only [Ir]⟩
 | .agg _, hc => ⟨rfl, by simp only [Mz]; exact hc, fun h => by simp only [Ir]⟩
 | .tup _, hc => ⟨rfl, by simp only [Mz]; exact hc, fun h => by simp only [Ir]⟩
 | .pi _ _ _ _, hc => ⟨rfl, rfl, fun h => by simp only [Ir]⟩
 | .dead, hc => ⟨rfl, rfl, fun h => by simp only [Ir]⟩
 | .p _ _, hc => by simp [SV.closed] at hc
 | .ps _ _, hc => by simp [SV.closed] at hc
 | .pr _ _ _ _, hc => by simp [SV.closed] at hc
 | .os _, hc => by simp [SV.closed] at hc
 | .ov _ _ _ _, hc => by simp [SV.closed] at hc
theorem Bl : ∀ {args : List SV}, SV.closedL args = true → Du args = [] ∧ Bc args = true ∧ ∀ h, Ct h args = args
 | [], _ => ⟨by simp only [Du], by simp only [Bc], fun _ => by simp only [Ct]⟩
 | x :: l, hc => by
   simp only [SV.closedL, Bool.and_eq_true] at hc;obtain ⟨g1, g2, g3⟩ := Ani hc.1;obtain ⟨h1, h2, h3⟩ := Bl hc.2;exact ⟨by simp only [Du, g1, h1]; rfl, by simp only [Bc, g2, h2]; rfl, fun h => by simp only [Ct, g3 h, h3 h]⟩
end
theorem Dk (s : FS) : C1 s [] = s := by simp [C1]
theorem Cj {f : Nat} {rs : List Rv} {c : C} (hf : Bf P f = some (N, rs, c)) : Pc P f := by
 obtain ⟨fn, code, h1, h2, h3, _⟩ := O2 hf;exact ⟨fn, h1, h2, by rw [h3]; rfl⟩
theorem A7 (hm : P.follows .mixedOrders = true) {f N' : Nat} {rs : List Rv} {c : C} (hf : Bf P f = some (N', rs, c)) {args : List SV} {h : Nat → Option Blk} {d : Nat} {x : SV} (hlen : args.length ≤ N')
 (hargs : SV.closedL args = true) (hx : x.closed = true) (hrun : ∀ F, sx (Z6 P F N') c (Yi rs fun y _ => y = x) (mk (C4 0 args) [])) : FunOk P f args h d x [] := by
 obtain ⟨h1, h2, h3⟩ := Bl hargs;refine ⟨Cj hf, fun F N ρ s a w hR hh vs hc => ?_⟩;refine Calls.mono (Dr hm hf (h := h) hlen h2 Ni (by rw [h3]; exact hrun) hR hh hc) fun e w' he => ?_;obtain ⟨v, rfl, hg, N'', ρ', s', a', y, hR', hy, rfl⟩ := he;rw [h1, Dk] at hR' hy;exact ⟨v, ρ, rfl, hR.grew hg, Bz (Jk hR') hx hy⟩
theorem Tb (hm : P.follows .mixedOrders = true) {f N' : Nat} {rs : List Rv} {c : C} (hf : Bf P f = some (N', rs, c)) {args : List SV} {h : Nat → Option Blk} {d : Nat} {x : SV} (hlen : args.length ≤ N')
 (hargs : SV.closedL args = true) (hx : x.closed = true) (hrun : ∀ F, sx (Z6 P F N') c (Yh rs fun y _ => y = x) (mk (C4 0 args) [])) : FunOk P f args h d x [] := by
 obtain ⟨h1, h2, h3⟩ := Bl hargs;refine ⟨Cj hf, fun F N ρ s a w hR hh vs hc => ?_⟩;refine Calls.mono (Dr hm hf (h := h) hlen h2 Wh (by rw [h3]; exact hrun) hR hh hc) fun e w' he => ?_;obtain ⟨v, rfl, hg, N'', ρ', s', a', y, hR', hy, rfl⟩ := he;rw [h1, Dk] at hR' hy;exact ⟨v, ρ, rfl, hR.grew hg, Bz (Jk hR') hx hy⟩
theorem Cx (hm : P.follows .mixedOrders = true) {f N' : Nat} {rs : List Rv} {c : C} (hf : Bf P f = some (N', rs, c)) {args : List SV} {h : Nat → Option Blk} {d : Nat} {x : SV} (hlen : args.length ≤ N')
 (hargs : Bc args = true) (hx : x.scalar = true) (hrun : ∀ F, sx (Z6 P F N') c (Yi rs fun y _ => y = x) (mk (C4 0 (Ct h args)) [])) : FunOk P f args h d x [] := by
 refine ⟨Cj hf, fun F N ρ s a w hR hh vs hc => ?_⟩;refine Calls.mono (Dr hm hf (h := h) hlen hargs Ni hrun hR hh hc) fun e w' he => ?_;obtain ⟨v, rfl, hg, N'', ρ', s', a', y, hR', hy, rfl⟩ := he;exact ⟨v, ρ, rfl, hR.grew hg, E3 hx hy⟩
theorem O1 (hm : P.follows .mixedOrders = true) {f N' : Nat} {rs : List Rv} {c : C} (hf : Bf P f = some (N', rs, c)) {args : List SV} {h : Nat → Option Blk} {d : Nat} {sz : Nat} {es : List (List PV)} (hlen : args.length ≤ N')
 (hargs : Bc args = true) (hx : SV.closedL args = true ∨ ∀ c ∈ es, c.all PV.flat = true) (hrun : ∀ F, sx (Z6 P F N') c (Yi rs fun y g => ∃ n, y = .os n ∧ g n = some (.row sz es)) (mk (C4 0 (Ct h args)) [])) :
 FunOk P f args h d (.os d) [.new d (.row sz es)] := by
 refine ⟨Cj hf, fun F N ρ s a w hR hh vs hc => ?_⟩;refine Calls.mono (Dr hm hf (h := h) hlen hargs Ni hrun hR hh hc) fun e w' he => ?_;obtain ⟨v, rfl, hg, N'', ρ', s', a', y, hR', hy, n, rfl, hn⟩ := he;simp only [Conc] at hy;obtain ⟨base, cap, g1, g2, g3, g4, g5⟩ := hR'.own n _ hn;have hown : ∀ b, Cs (ρ' n) = some b → w.heap.size ≤ b ∧ b < w'.heap.size := fun b hb => by
  have ho : Ck ρ' s'.h b := ⟨n, _, hn, hb⟩
  exact ⟨(hR'.may b ho).resolve_right id, hR'.lt ho⟩
 have hnew := hR.adopt hg d (.row sz es) (ρ' n) hown fun hV => by
  refine ⟨base, cap, by rw [A4]; exact g1, g2, g3, g4, fun hcap => ?_⟩;obtain ⟨b, vs', ty, fr, k1, k2, k3, k4, k5, k6⟩ := g5 hcap;refine ⟨b, vs', ty, fr, k1, k2, k3, k4, k5, fun i c hi => ?_⟩;rcases hx with hx | hx
  · obtain ⟨e1, _, _⟩ := Bl hx;rw [e1, Dk] at hR' k6;refine (k6 i c hi).mono (Bi fun b' c' ho hc' => ⟨fun hb' => ?_, hc'⟩);rcases hb' with ⟨m, z, hm1, hm2⟩ | hb'
    · by_cases hmd : m = d
      · subst hmd;rw [A4] at hm2;exact ho (.inl ⟨n, _, hn, hm2⟩)
      · rw [B0 hmd] at hm2;simp only [FS.seth, FS.kill, hmd, if_false] at hm1;obtain ⟨z', hz', _⟩ := Option.map_eq_some_iff.1 hm1;exact ho (.inr (.inl ⟨m, z', hz', hm2⟩))
    · exact ho (.inr (.inr hb'))
  · exact Jh (hx c (List.mem_of_getElem? hi)) (k6 i c hi)
 refine ⟨v, _, rfl, hnew.1, ?_⟩;simp only [Conc];exact ⟨by rw [A4]; exact hy.1, hy.2⟩
theorem Afp (hm : P.follows .mixedOrders = true) {f N' : Nat} {rs : List Rv} {c : C} (hf : Bf P f = some (N', rs, c)) {args : List SV} {h : Nat → Option Blk} {d : Nat} {z : SV} {sz : Nat} {es : List (List PV)} (hlen : args.length ≤ N')
 (hargs : Bc args = true) (hx : SV.closedL args = true ∨ ∀ c ∈ es, c.all PV.flat = true) (hzs : z.scalar = true) (hrun : ∀ F, sx (Z6 P F N') c (Yi rs fun y g => ∃ n, y = .tup [.os n, z] ∧ g n = some (.row sz es)) (mk (C4 0 (Ct h args)) [])) :
 FunOk P f args h d (.tup [.os d, z]) [.new d (.row sz es)] := by
 refine ⟨Cj hf, fun F N ρ s a w hR hh vs hc => ?_⟩;refine Calls.mono (Dr hm hf (h := h) hlen hargs Ni hrun hR hh hc) fun e w' he => ?_;obtain ⟨v, rfl, hg, N'', ρ', s', a', y, hR', hy, n, rfl, hn⟩ := he;simp only [Conc, ConcL] at hy;obtain ⟨tv, rfl, u1, us1, rfl, hy, u2, us2, rfl, hz2, rfl⟩ := hy;obtain ⟨base, cap, g1, g2, g3, g4, g5⟩ := hR'.own n _ hn;have hown : ∀ b, Cs (ρ' n) = some b → w.heap.size ≤ b ∧ b < w'.heap.size := fun b hb => by
  have ho : Ck ρ' s'.h b := ⟨n, _, hn, hb⟩
  exact ⟨(hR'.may b ho).resolve_right id, hR'.lt ho⟩
 have hnew := hR.adopt hg d (.row sz es) (ρ' n) hown fun hV => by
  refine ⟨base, cap, by rw [A4]; exact g1, g2, g3, g4, fun hcap => ?_⟩;obtain ⟨b, vs', ty, fr, k1, k2, k3, k4, k5, k6⟩ := g5 hcap;refine ⟨b, vs', ty, fr, k1, k2, k3, k4, k5, fun i c hi => ?_⟩;rcases hx with hx | hx
  · obtain ⟨e1, _, _⟩ := Bl hx;rw [e1, Dk] at hR' k6;refine (k6 i c hi).mono (Bi fun b' c' ho hc' => ⟨fun hb' => ?_, hc'⟩);rcases hb' with ⟨m, z, hm1, hm2⟩ | hb'
    · by_cases hmd : m = d
      · subst hmd;rw [A4] at hm2;exact ho (.inl ⟨n, _, hn, hm2⟩)
      · rw [B0 hmd] at hm2;simp only [FS.seth, FS.kill, hmd, if_false] at hm1;obtain ⟨z', hz', _⟩ := Option.map_eq_some_iff.1 hm1;exact ho (.inr (.inl ⟨m, z', hz', hm2⟩))
    · exact ho (.inr (.inr hb'))
  · exact Jh (hx c (List.mem_of_getElem? hi)) (k6 i c hi)
 refine ⟨_, _, rfl, hnew.1, ?_⟩;simp only [Conc, ConcL];exact ⟨_, rfl, u1, _, rfl, ⟨by rw [A4]; exact hy.1, hy.2⟩, u2, _, rfl, E3 hzs hz2, rfl⟩
end Go.Proofs.YtannaphhhkncoaaGreat.Fw
namespace Go.Proofs.YtannaphhhkncoaaGreat.Fw
open Go.RowKit
theorem Ayk {α : Type} (I : α → FS) (J : α → Prop) (m : α → Nat) (x : α) (Q : Ch) (s) : Ae2 I J m x Q .normal s = ∃ y, J y ∧ m y < m x ∧ Wk s (I y) := (rfl)
theorem Ayl {α : Type} (I : α → FS) (J : α → Prop) (m : α → Nat) (x : α) (Q : Ch) (s i) : Ae2 I J m x Q (.exit i) s = Q (.exit i) s := (rfl)
theorem Ayj {α : Type} (I : α → FS) (J : α → Prop) (m : α → Nat) (x : α) (Q : Ch) (s) : Ae2 I J m x Q .ret s = Q .ret s := (rfl)
theorem A3h (rs R s) : Yi rs R .normal s = Kf s rs fun l => R (one l) s.h := (rfl)
theorem A3g (rs R s) : Yi rs R .ret s = Kf s rs fun l => R (one l) s.h := (rfl)
theorem Aq9 (s K) : Kf s [] K = K [] := (rfl)
theorem A3i (s n rs K) : Kf s (.t n :: rs) K = Kf s rs fun l => K (s.t n :: l) := (rfl)
def Akj (s : FS) (rs : List Rv) (K : List SV → Prop) : KK := fun x u => u = [] ∧ Kf s rs fun l => K (x :: l)
theorem A3j (s a size ag rs K) : Kf s (.c a size ag :: rs) K = G8 s.h size ag (s.t a) (Akj s rs K) := (rfl)
theorem Ahu (s rs K x u) : Akj s rs K x u = (u = [] ∧ Kf s rs fun l => K (x :: l)) := (rfl)
theorem A8j (x) : one [x] = x := (rfl)
theorem A8i (x y l) : one (x :: y :: l) = .tup (x :: y :: l) := (rfl)
theorem Avb (k) : C4 k [] = [] := (rfl)
theorem Ao6 (k x l) : C4 k (x :: l) = (k, x) :: C4 (k + 1) l := (rfl)
theorem Anf (h) : Ct h [] = [] := (rfl)
theorem Aig (h x l) : Ct h (x :: l) = Ir h x :: Ct h l := (rfl)
theorem Ayp (h x) : Ir h (.pv x) = .pv x := (rfl)
theorem Asx (h n x) : Ir h (.vec n x) = .vec n x := (rfl)
theorem Ath (s) : Afi s [] = True := (rfl)
theorem Ant (s n x l) : Afi s ((n, x) :: l) = (Imp (s.t n) x ∧ Afi s l) := (rfl)
theorem Ati (s) : Yv s [] = True := (rfl)
theorem Anu (s n b l) : Yv s ((n, some b) :: l) = (Anw (s.h n) b ∧ Yv s l) := (rfl)
theorem Anv (x y) : Anw (some x) y = Avz x y := (rfl)
theorem Atk (a b c d) : Avz (.row a b) (.row c d) = (a = c ∧ b = d) := (rfl)
theorem Atj (x y) : Avz (.var x) (.var y) = (Imp x y ∧ x.width = y.width) := (rfl)
theorem Atf (x) : Imp x x = True := eq_true (Imp.refl x)
theorem Ayi (n m : Nat) (l : List Nat) : (n ∈ m :: l) = (n = m ∨ n ∈ l) := propext List.mem_cons
theorem Xy (l : List UInt8) (k : Nat) (h : k < l.length) : (Am l)[k]? = some [.i .u8 (l[k]).toNat] := by
 simp [Am, h]
theorem A0 (l : List UInt8) : (Am l).length = l.length := by simp [Am]
theorem Il {n : Int} (h : 0 ≤ n ∧ n < 256) : IntKind.u8.wrap n = n := by
 simp [IntKind.wrap, IntKind.signed, IntKind.bits]; omega
theorem Qm {n : Int} (h : 0 ≤ n ∧ n < 4294967296) : IntKind.u32.wrap n = n := by
 simp [IntKind.wrap, IntKind.signed, IntKind.bits]; omega
theorem Vs {n : Int} (h : 0 ≤ n ∧ n < 18446744073709551616) : IntKind.u64.wrap n = n := by
 simp [IntKind.wrap, IntKind.signed, IntKind.bits]; omega
theorem Ep {n : Int} (h : -9223372036854775808 ≤ n ∧ n < 9223372036854775808) : IntKind.i64.wrap n = n := by
 simp [IntKind.wrap, IntKind.signed, IntKind.bits]; omega
mutual
theorem Af9 (n : Nat) : ∀ {x : SV}, x.closed = true → x.kill n = x
 | .pv _, _ => by simp only [SV.kill]
 | .vec _ _, _ => by simp only [SV.kill]
 | .agg l, h => by simp only [SV.closed] at h; simp only [SV.kill, Fp n h]
 | .tup l, h => by simp only [SV.closed] at h; simp only [SV.kill, Fp n h]
 | .pi _ _ _ _, _ => by simp only [SV.kill]
 | .fn f l, h => by simp only [SV.closed] at h; simp only [SV.kill, Fp n h]
 | .dead, _ => by simp only [SV.kill]
 | .p _ _, h => by simp [SV.closed] at h
 | .ps _ _, h => by simp [SV.closed] at h
 | .pr _ _ _ _, h => by simp [SV.closed] at h
 | .os _, h => by simp [SV.closed] at h
 | .ov _ _ _ _, h => by simp [SV.closed] at h
theorem Fp (n : Nat) : ∀ {l : List SV}, SV.closedL l = true → SV.killL n l = l
 | [], _ => by simp only [SV.killL]
 | x :: l, h => by
   simp only [SV.closedL, Bool.and_eq_true] at h;simp only [SV.killL, Af9 n h.1, Fp n h.2]
end
theorem Aa {P : Program} {E : Env} {f : Nat} {args : List SV} {h : Nat → Option Blk} {d : Nat} {x : SV} {u : List HU} {K : KK} (hf : FunOk P f args h d x u) (hk : K x u) (hE : E.call = Av2 P := by rfl) : Ui E f args h d K := ⟨x, u, .inl (hE ▸ .inl hf), hk⟩
theorem Axp (w : World) (ht : Aph w) : RelR ⟨w, fun _ => False, fun _ => False, fun _ => undef, []⟩ 0 (fun _ => undef) ⟨fun _ => .dead, fun _ => none⟩ ⟨#[], []⟩ w :=
 ⟨⟨rfl, rfl, rfl, Nat.le_refl _, fun _ _ _ => rfl, fun _ h => h.elim, ⟨ht, fun _ _ => id⟩⟩, fun b ⟨n, x, h, _⟩ => by simp at h, fun n x h => by simp at h, fun n m x y b h => by simp at h, fun n => by simp only [Conc], rfl, rfl⟩
theorem FunOk.law {P : Program} {f : Nat} {args : List SV} {h d} (hf : FunOk P f args h d (.pv (.b true)) []) (hc : SV.closedL args = true) {w : World} {vs : List Value} {ρ : Nat → Value} (hv : ConcL (Az w fun _ => False) ρ args vs) (htw : Aph w) :
 Calls P f ⟨vs⟩ w fun e w' => e = .returned (.bool true) ∧ Below w.heap.size w w' := by
 have ht : Bd args = [] := by
  cases hx : Bd args with
  | nil => rfl
  | cons n l =>
    have : SV.killL n args = args := by
     have key : ∀ (l : List SV), SV.closedL l = true → ∀ n, SV.killL n l = l := fun l hl n => Fp n hl;exact key args hc n
    exact absurd (by rw [hx]; simp) (Kl this)
 have hV : (Az w fun _ => False).le (vw ⟨w, fun _ => False, fun _ => False, fun _ => undef, []⟩ w (fun _ => undef) ⟨fun _ => .dead, fun _ => none⟩) :=
  Bi fun b c _ hb => ⟨fun hh => hh.elim (fun ⟨n, x, h, _⟩ => by simp at h) id, hb⟩
 refine Calls.mono (hf.2 _ 0 _ _ _ w (Axp w htw) (by rw [ht]; simp) vs (It hV hc hv)) fun e w' he => ?_;obtain ⟨v, ρ', rfl, hR, hy⟩ := he;exact ⟨by rw [Rj hy], hR.fr.os, hR.fr.tape, hR.fr.output, hR.fr.size, fun b hb => hR.fr.block b hb id⟩
end Go.Proofs.YtannaphhhkncoaaGreat.Fw
namespace Go.Proofs.YtannaphhhkncoaaGreat.Fw
open Go.RowKit
variable (E : Env)
def brK (a : C) (Q : Ch) (s : FS) : Prop := sx E a Q s
def gdK (k : Kd) (x : List Opd) (d : Nat) (l : List I) (Q : Ch) (s : FS) : Prop := body E k x d s (Ud E (some d) l Q s)
def skK (d : Option Nat) (l : List I) (Q : Ch) (s : FS) : Prop := sxL E l Q (s.apply d (.tup []) [])
def gdA (D : List Nat) (c : Nat) (k : Kd) (x : List Opd) (d : Nat) (l : List (I × Nat × List Nat)) (Q : Ch) (s : FS) : Prop := body E k x d s (J4 E D c (some d) l Q s)
def skA (D : List Nat) (c : Nat) (d : Option Nat) (l : List (I × Nat × List Nat)) (Q : Ch) (s : FS) : Prop := J4 E D c d l Q s (.tup []) []
def pkK (K : KK) (x : SV) : Prop := K x []
theorem Ak (a Q s) : brK E a Q s = sx E a Q s := (rfl)
theorem Aj (k x d l Q s) : gdK E k x d l Q s = body E k x d s (Ud E (some d) l Q s) := (rfl)
theorem Ai (d l Q s) : skK E d l Q s = sxL E l Q (s.apply d (.tup []) []) := (rfl)
theorem Ah (D c k x d l Q s) : gdA E D c k x d l Q s = body E k x d s (J4 E D c (some d) l Q s) := (rfl)
theorem Ag (D c d l Q s) : skA E D c d l Q s = J4 E D c d l Q s (.tup []) [] := (rfl)
theorem Ad (K x) : pkK K x = K x [] := (rfl)
theorem A45 (p : Prop) [Decidable p] (a b Q s) : Ano E (.pv (.b (decide p))) a b Q s = ((p → brK E a Q s) ∧ (¬ p → brK E b Q s)) := by
 by_cases h : p <;> simp [Ano, brK, h]
theorem An6 (p : Prop) [Decidable p] (D c k x d l Q s) : Ie E D c (.pv (.b (decide p))) true k x (some d) l Q s = ((p → gdA E D c k x d l Q s) ∧ (¬ p → skA E D c (some d) l Q s)) := by
 by_cases h : p <;> simp [Ie, Eg, gdA, skA, h]
attribute [go_sem] Atu Atv Auq Awx Aqc Al8 Al7 An0 An1 An2 An3 Awp Awq Awo Ay3 Ay2 Ay4 A2k Awv Ann Ail Aur Awy Aqd Ama Al9 An4 An5 An7 An8 A8t A8s A8r Ayd Asd Asi Am6 Ahv Ahw Asf Asg Ase Ash A2f A2i Aqa Awt A2h Awr Aws A2j A44 A46 A0z A00 Azd Aze Azb Azf Aiw At4 Aod At5 Aof Aoe Bc5 Baf Bc6 f_p Bc7 Bah Bag Bc8 A5x Azw A5t A5u Aq1 Od Rf Baj Bb7 Bak A91 A4r Ayo Anl Aii Anm Aik Aij Bcp A9p Bcs A40 k_p Bcq Bcr Bct A9r A9q Bcu A41 Ayy A4y A4z Azy Aud Ao2 Ajf Aoz Bdf A6x Ba5 Bbh Bbi A60 Bbg Bdg Ba2 Bbj Bbd Bde Bbf A61 A6z Bbk Ba4 Ba3 Bdh Bba Bbb Ba9 Ba8 Bbc Ba7 Bbl Ba6 A6y Bcj A4h A3w A3x A8x A87 A88 A4j A86 Ao3 Auv Bck A8u A89 A84 Auf As2 Au8 Bci A17 A85 Asb A4k A8w A8v Bcl Bc4 Bac Bad A81 A5a A5b Atn A9l A9m A9n Bco A9i A9j A9k Ayw Aso Asp Ayh Asq Am9 Az6 Auo Aw3 Aqj Bb3 A8a Bb4 A8b A7x A3a A7y A3b A13 Awe Axe Aqz Bdc Baw Bax Bdd A59 A0k A31 A78 Ame A79 Aw1 Aw2 Bb8 A76 Aw0 Bc2 An9 Atx Az4 Avc Bc1 A94 A95 A5l Azk Bc9 Bda A9a A67 A82 A9y A80 A8z A83 Ar8 Ar9 A4i A8y Ax9 Ba0 Baz A6t A6g A6m A6k A6j A6i A6h A6s Ba1 A6r A6l A6n A6o A6p A6q A6d A6c A6b A6v A6u Baa A5s Bab A12 Awc A63 A0w Bb1 Bb2 Axk A5z Asc A48 A49 A5v Azu At7 A28 A27 A26 A25 Aw9 A9e A23 A22 A9x A9w if_true if_false Option.map_some Option.bind_some Nat.le_refl and_self List.append_nil List.nil_append List.cons_append true_and and_true true_or or_true Bool.false_and Bool.true_and Bool.false_or Bool.or_false Bool.and_false Bool.and_true Bool.not_true Bool.not_false Int.toNat_zero List.drop_zero Int.toNat_natCast Ayi Nat.zero_add Nat.add_zero decide_true decide_false Ayk Ayl Ayj A3h A3g Aq9 A3i A3j Ahu A8j A8i Avb Ao6 Anf Aig Ayp Asx Ath Ant Ati Anu Anv Atk Atj Atf Option.getD_some Option.getD_none true_implies false_implies A45 An6 Il Qm Vs Ep not_true_eq_false not_false_eq_true
theorem A6w (E : Env) (x d s K) : body E (.s2bD) x d s K = Aw d s.h (.s2bD) (Bu s x) K := (rfl)
theorem A4g (d h l K) : Aw d h .s2bD [.pv (.s l)] K = K (.pv (.sl false 1 (Am l))) [] := (rfl)
attribute [go_sem] A6w A4g
attribute [go_sem_proc] Nat.reduceEqDiff Nat.reduceSub Nat.reduceLeDiff Nat.reduceAdd Int.reduceEq Int.reduceLT Int.reduceLE
attribute [go_sem_proc ↓] reduceIte
end Go.Proofs.YtannaphhhkncoaaGreat.Fw
namespace Go.Proofs.YtannaphhhkncoaaGreat.Fw
open Go.RowKit
def Cq (n : Nat) (f : Nat → PV) : List PV := (List.range n).map f
theorem D0 (n f) : (Cq n f).length = n := by simp [Cq]
theorem G1 {n k : Nat} (h : k < n) (f) : (Cq n f)[k]? = some (f k) := by simp [Cq, h]
theorem Ao5 {n k : Nat} (h : k < n) (f d) : (Cq n f).getD k d = f k := by rw [List.getD_eq_getElem?_getD, G1 h]; rfl
theorem H6 {n : Nat} {f g : Nat → PV} (h : ∀ i, i < n → f i = g i) : Cq n f = Cq n g := by
 unfold Cq; exact List.map_congr_left fun i hi => h i (by simpa using hi)
theorem Agp {n a m : Nat} (h : a + m ≤ n) (f g) : splice (Cq n f) a (Cq m g) = Cq n fun i => if a ≤ i ∧ i < a + m then g (i - a) else f i := by
 apply List.ext_getElem?;intro k;unfold splice;rw [D0];simp only [List.getElem?_append, List.length_append, List.length_take, D0, List.getElem?_take, List.getElem?_drop];rw [Nat.min_eq_left (by omega)];by_cases h1 : k < a + m
 · rw [if_pos h1];by_cases h2 : k < a
   · rw [if_pos h2, if_pos h2, G1 (by omega), G1 (by omega), if_neg (by omega)]
   · rw [if_neg h2, G1 (by omega), G1 (by omega), if_pos (by omega)]
 · rw [if_neg h1];by_cases h3 : k < n
   · rw [G1 (by omega), G1 (by omega), if_neg (by omega)];congr 2; omega
   · rw [List.getElem?_eq_none (by rw [D0]; omega), List.getElem?_eq_none (by rw [D0]; omega)]
theorem X9 {n : Nat} {f g : Nat → PV} : Cq n f = Cq n g ↔ ∀ i, i < n → f i = g i := by
 refine ⟨fun e i hi => ?_, H6⟩;have := congrArg (·[i]?) e;simp only [G1 hi, Option.some.injEq] at this;exact this
theorem Ava (f) : Cq 1 f = [f 0] := rfl
theorem Ae3 {n k : Nat} (h : k < n) (f K) : LoadK (some (Cq n f)) k 1 false K = K (.pv (f k)) [] := by
 simp only [LoadK, D0, G5, Ao5 h];simp; omega
def Er {α : Type} (a : Nat → α) (k : Nat) (x : α) : Nat → α := fun i => if i = k then x else a i
theorem X8 {n k : Nat} (h : k < n) (f c) : splice (Cq n f) k [c] = Cq n (Er f k c) := by
 have := Agp (a := k) (m := 1) (n := n) (by omega) f fun _ => c;rw [Ava] at this;rw [this];exact H6 fun i hi => by
  unfold Er;by_cases e : i = k
  · subst e; simp
  · rw [if_neg (by omega), if_neg e]
abbrev Vc := Nat → Nat
def vE (a : Vc) : List PV := Cq 8 fun i => .i .u32 (a i : Int)
def tE (t : Nat → Vc) : List PV := Cq 64 fun i => .i .u32 (t (i / 8) (i % 8) : Int)
def wE (w : Nat → Bool) : List PV := Cq 8 fun i => .b (w i)
def vEq (a b : Vc) : Prop := ∀ i, i < 8 → a i = b i
instance (a b : Vc) : Decidable (vEq a b) := inferInstanceAs (Decidable (∀ i, i < 8 → a i = b i))
def wEq (a b : Nat → Bool) : Prop := ∀ i, i < 8 → a i = b i
instance (a b : Nat → Bool) : Decidable (wEq a b) := inferInstanceAs (Decidable (∀ i, i < 8 → a i = b i))
theorem Kb {a b : Vc} (h : ∀ i, i < 8 → a i = b i) : vE a = vE b := H6 fun i hi => by rw [h i hi]
theorem A16 {a b : Vc} : vE a = vE b ↔ vEq a b := by
 unfold vE vEq; rw [X9];refine forall_congr' fun i => forall_congr' fun hi => ?_;simp only [PV.i.injEq, true_and]; omega
theorem Apw {a b : Nat → Bool} (h : ∀ i, i < 8 → a i = b i) : wE a = wE b := H6 fun i hi => by rw [h i hi]
theorem A14 {a b : Nat → Bool} : wE a = wE b ↔ wEq a b := by
 unfold wE wEq; rw [X9];refine forall_congr' fun i => forall_congr' fun hi => ?_;simp
theorem Bh (a) : (vE a).length = 8 := D0 ..
theorem Kk (a) : (wE a).length = 8 := D0 ..
theorem Aym {k : Nat} (h : k < 8) (a K) : LoadK (some (vE a)) k 1 false K = K (.pv (.i .u32 (a k))) [] := Ae3 h _ _
theorem Amf {k : Nat} (h : k < 8) (a : Vc) (n : Nat) : splice (vE a) k [.i .u32 (n : Int)] = vE (Er a k n) := by
 unfold vE; rw [X8 h];exact H6 fun i hi => by unfold Er; split <;> rfl
theorem Sg {k : Nat} (h : k < 8) (a : Nat → Bool) (n : Bool) : splice (wE a) k [.b n] = wE (Er a k n) := by
 unfold wE; rw [X8 h];exact H6 fun i hi => by unfold Er; split <;> rfl
theorem Av8 : ([.i .u32 0, .i .u32 0, .i .u32 0, .i .u32 0, .i .u32 0, .i .u32 0, .i .u32 0, .i .u32 0] : List PV) = vE fun _ => 0 := rfl
theorem Av7 : ([.b false, .b false, .b false, .b false, .b false, .b false, .b false, .b false] : List PV) = wE fun _ => false := rfl
theorem A3l : List.replicate 8 (PV.i .u32 0) = vE fun _ => 0 := rfl
theorem A3k : List.replicate 8 (PV.b false) = wE fun _ => false := rfl
theorem A3m : List.replicate 64 (PV.i .u32 0) = tE fun _ _ => 0 := rfl
def iE (f : Nat → Int) : List PV := Cq 8 fun i => .i .i64 (f i)
def iEq (a b : Nat → Int) : Prop := ∀ i, i < 8 → a i = b i
instance (a b : Nat → Int) : Decidable (iEq a b) := inferInstanceAs (Decidable (∀ i, i < 8 → a i = b i))
theorem Ato {a b : Nat → Int} (h : ∀ i, i < 8 → a i = b i) : iE a = iE b := H6 fun i hi => by rw [h i hi]
theorem A5f {a b : Nat → Int} : iE a = iE b ↔ iEq a b := by
 unfold iE iEq; rw [X9];refine forall_congr' fun i => forall_congr' fun hi => ?_;simp only [PV.i.injEq, true_and]
theorem K6 (a) : (iE a).length = 8 := D0 ..
theorem Ayn {k : Nat} (h : k < 8) (a K) : LoadK (some (iE a)) k 1 false K = K (.pv (.i .i64 (a k))) [] := Ae3 h _ _
theorem Zh {k : Nat} (h : k < 8) (a : Nat → Int) (n : Int) : splice (iE a) k [.i .i64 n] = iE (Er a k n) := by
 unfold iE; rw [X8 h];exact H6 fun i hi => by unfold Er; split <;> rfl
theorem Av9 : ([.i .i64 0, .i .i64 0, .i .i64 0, .i .i64 0, .i .i64 0, .i .i64 0, .i .i64 0, .i .i64 0] : List PV) = iE fun _ => 0 := rfl
theorem A3n : List.replicate 8 (PV.i .i64 0) = iE fun _ => 0 := rfl
theorem Om (c cs K) : LoadK (some (c :: cs)) 0 1 false K = K (.pv c) [] := by
 simp [LoadK, G5]
theorem Ak4 (c cs n m ag K) : LoadK (some (c :: cs)) (n + 1) m ag K = LoadK (some cs) n m ag K := by
 simp only [LoadK, List.length_cons];have e : G5 (c :: cs) (n + 1) m ag = G5 cs n m ag := by cases ag <;> simp [G5]
 rw [e];congr 1;exact propext ⟨fun h => by omega, fun h => by omega⟩
theorem Ane {a cs : List PV} {k m ag K} (h : a.length ≤ k) : LoadK (some (a ++ cs)) k m ag K = LoadK (some cs) (k - a.length) m ag K := by
 simp only [LoadK, List.length_append];have e1 : (k + m ≤ a.length + cs.length) = (k - a.length + m ≤ cs.length) := propext ⟨fun _ => by omega, fun _ => by omega⟩;rw [e1];have e : G5 (a ++ cs) k m ag = G5 cs (k - a.length) m ag := by
  cases ag with
  | true => simp only [G5]; rw [List.drop_append, List.drop_eq_nil_of_le h]; rfl
  | false =>
    simp only [G5];rw [List.getD_eq_getElem?_getD, List.getD_eq_getElem?_getD, List.getElem?_append_right h]
 rw [e]
theorem Hz (a K) : LoadK (some (vE a)) 0 8 true K = K (.vec 8 (vE a)) [] := by
 simp only [LoadK, Bh, G5];rw [List.drop_zero, List.take_of_length_le (by rw [Bh]; omega)]; simp
theorem Asw {k : Nat} (h : 8 ≤ k) (a cs m ag K) : LoadK (some (vE a ++ cs)) k m ag K = LoadK (some cs) (k - 8) m ag K := by
 rw [Ane (by rw [Bh]; omega), Bh]
theorem W5 {cs : List PV} {m : Nat} (h : cs.length = m) (K) : LoadK (some cs) 0 m true K = K (.vec m cs) [] := by
 simp only [LoadK, G5];rw [List.drop_zero, List.take_of_length_le (by omega)]; simp; omega
theorem Ahj {k : Nat} (h : 8 ≤ k) (a cs ys) : splice (vE a ++ cs) k ys = vE a ++ splice cs (k - 8) ys := by
 have hl := Bh a;simp only [splice, List.append_assoc];rw [List.take_append, List.take_of_length_le (by omega), List.drop_append, List.drop_eq_nil_of_le (as := vE a) (by omega), hl];simp only [List.append_assoc, List.nil_append];rw [show k + ys.length - 8 = k - 8 + ys.length from by omega]
theorem A4f {p q : Prop} (h : p) : (p ∧ q) = q := propext ⟨fun x => x.2, fun x => ⟨h, x⟩⟩
theorem Baq {a b : Int} (h : a < b) : decide (a < b) = true := decide_eq_true h
theorem Bar {a b : Int} (h : ¬ a < b) : decide (a < b) = false := decide_eq_false h
theorem Bas {a b : Int} (h : a ≤ b) : decide (a ≤ b) = true := decide_eq_true h
theorem Bat {a b : Int} (h : ¬ a ≤ b) : decide (a ≤ b) = false := decide_eq_false h
theorem Bau {a b : Int} (h : a = b) : decide (a = b) = true := decide_eq_true h
theorem Bav {a b : Int} (h : ¬ a = b) : decide (a = b) = false := decide_eq_false h
theorem Ajd {a b : List UInt8} (h : Am a = Am b) : a = b := by
 induction a generalizing b with
 | nil => cases b with
   | nil => rfl
   | cons y b => simp [Am] at h
 | cons x a ih => cases b with
   | nil => simp [Am] at h
   | cons y b =>
     simp only [Am, List.map_cons, List.cons.injEq, PV.i.injEq, true_and, and_true] at h;rw [ih h.2]; congr 1;exact UInt8.toNat_inj.1 (by have := h.1; omega)
theorem Auu (l K) : Yk (Am l) K = K (.pv (.s l)) [] := by
 unfold Yk;exact propext ⟨fun ⟨m, e, h⟩ => by rw [Ajd e]; exact h, fun h => ⟨l, rfl, h⟩⟩
theorem Bw {l : List UInt8} {k : Nat} (h : k < l.length) (K) : LoadK (Am l)[k]? 0 1 false K = K (.pv (.i .u8 (l.getD k 0).toNat)) [] := by
 rw [Xy l k h];simp only [LoadK, G5];simp [List.getD_eq_getElem?_getD, h]
theorem Vb {n : Nat} {a b : List PV} (h : a = b) : Imp (.vec n a) (.vec n b) := h ▸ Imp.refl _
theorem Ay6 {k : IntKind} {a b : Int} (h : a = b) : Imp (.pv (.i k a)) (.pv (.i k b)) = True := eq_true (h ▸ Imp.refl _)
def Wj (n m : Nat) : List (Nat × SV) → List (Nat × SV)
 | [] => []
 | (j, x) :: l => (j, x.ren n m) :: Wj n m l
def Pf (n m : Nat) : List (Nat × Option Blk) → List (Nat × Option Blk)
 | [] => []
 | (j, some x) :: l => (if j = m then (j, none) else (j, some (x.ren n m))) :: Pf n m l
 | (j, none) :: l => (j, none) :: Pf n m l
theorem Ak5 (n m k) : ∀ t : List (Nat × SV), lk .dead k (Wj n m t) = (lk .dead k t).ren n m
 | [] => by simp [Wj, lk, SV.ren]
 | (j, x) :: l => by
   simp only [Wj, lk, Ak5 n m k l];split <;> rfl
theorem U6 (n m k) (hk : k ≠ m) : ∀ t : List (Nat × Option Blk), lk none k (Pf n m t) = (lk none k t).map (Blk.ren n m)
 | [] => by simp [Pf, lk]
 | (j, some x) :: l => by
   by_cases hj : j = m
   · subst hj; simp [Pf, lk, hk, U6 n j k hk l]
   · simp only [Pf, hj, if_false, lk, U6 n m k hk l];split <;> rfl
 | (j, none) :: l => by
   simp only [Pf, lk, U6 n m k hk l];split <;> simp
theorem A3o (t h n m) (hne : n ≠ m) : (mk t h).ren n m = mk (Wj n m t) ((n, none) :: (m, (lk none n h).map (Blk.ren n m)) :: Pf n m h) := by
 have e1 : (fun k => ((mk t h).t k).ren n m) = (mk (Wj n m t) ((n, none) :: (m, (lk none n h).map (Blk.ren n m)) :: Pf n m h)).t := by
  funext k; simp only [mk, Ak5]
 have e2 : ((mk t h).ren n m).h = (mk (Wj n m t) ((n, none) :: (m, (lk none n h).map (Blk.ren n m)) :: Pf n m h)).h := by
  funext k;simp only [FS.ren, mk, lk];by_cases h1 : k = m
  · subst h1; rw [if_pos rfl, if_neg (Ne.symm hne), if_pos rfl]
  · rw [if_neg h1];by_cases h2 : k = n
    · subst h2; simp
    · rw [if_neg h2, if_neg h2, if_neg h1, U6 n m k h1]
 show FS.mk _ _ = FS.mk _ _;congr 1
theorem Cf {t : List (Nat × SV)} {h : List (Nat × Option Blk)} {s' : FS} (n m : Nat) (hne : n ≠ m) (hm : lk none m h = none) (hw : Wk (mk (Wj n m t) ((n, none) :: (m, (lk none n h).map (Blk.ren n m)) :: Pf n m h)) s') : Wk (mk t h) s' :=
 .ren n m hne hm (by rw [A3o _ _ _ _ hne]; exact hw)
theorem Na {t : List (Nat × SV)} {h : List (Nat × Option Blk)} {s' : FS} (k n sz : Nat) {z : Nat} (ht : lk .dead k t = .pv (.sl true z [])) (hs : 0 < sz) (hw : Wk (mk ((k, .os n) :: K4 n t) ((n, some (.row sz [])) :: H0 n h)) s') : Wk (mk t h) s' :=
 .nil k n z sz ht hs (by rw [Rf, Od, Aq1]; exact hw)
theorem Al {α : Type} {I : α → FS} {J : α → Prop} {m : α → Nat} {x : α} {s : FS} (y : α) (T : List (Nat × SV)) (H : List (Nat × Option Blk)) (hI : I y = mk T H) (hJ : J y) (hm : m y < m x) (h1 : Afi s T) (h2 : Yv s H) : ∃ y, J y ∧ m y < m x ∧ Wk s (I y) :=
 ⟨y, hJ, hm, hI ▸ An h1 h2⟩
theorem Aha {k : Nat} (f g : Vc) (n : Nat) (hn : n = f k) : vE (Er (fun i => if i < k then f i else g i) k n) = vE fun i => if i < k + 1 then f i else g i := by
 subst hn;exact Kb fun i hi => by unfold Er; grind
theorem Ahb (f g : Vc) {k : Nat} (h : 8 ≤ k) : (vE fun i => if i < k then f i else g i) = vE f := Kb fun i hi => by rw [if_pos (by omega)]
theorem Aau (f g : Vc) {k : Nat} (h : k = 0) : (vE fun i => if i < k then f i else g i) = vE g := Kb fun i hi => by rw [if_neg (by omega)]
theorem Bca (n m x) : SV.ren n m (.pv x) = .pv x := (rfl)
theorem A8d (n m k x) : SV.ren n m (.vec k x) = .vec k x := (rfl)
theorem Bcd (n m a b c d) : SV.ren n m (.pi a b c d) = .pi a b c d := (rfl)
theorem r_p (n m k o) : SV.ren n m (.p k o) = if k = n then .p m o else if k = m then .dead else .p k o := (rfl)
theorem Bcb (n m k o) : SV.ren n m (.ps k o) = if k = n then .ps m o else if k = m then .dead else .ps k o := (rfl)
theorem Bcc (n m k s i o) : SV.ren n m (.pr k s i o) = if k = n then .pr m s i o else if k = m then .dead else .pr k s i o := (rfl)
theorem Bce (n m k) : SV.ren n m (.os k) = if k = n then .os m else if k = m then .dead else .os k := (rfl)
theorem A8f (n m l) : SV.ren n m (.agg l) = .agg (SV.renL n m l) := (rfl)
theorem A8e (n m l) : SV.ren n m (.tup l) = .tup (SV.renL n m l) := (rfl)
theorem Bcf (n m f l) : SV.ren n m (.fn f l) = .fn f (SV.renL n m l) := (rfl)
theorem A3r (n m) : SV.renL n m [] = [] := (rfl)
theorem Axr (n m x l) : SV.renL n m (x :: l) = SV.ren n m x :: SV.renL n m l := (rfl)
theorem A3p (n m x) : Blk.ren n m (.var x) = .var (x.ren n m) := (rfl)
theorem A3q (n m a b) : Blk.ren n m (.row a b) = .row a b := (rfl)
theorem Ara (n m) : Wj n m [] = [] := (rfl)
theorem Amm (n m j x l) : Wj n m ((j, x) :: l) = (j, x.ren n m) :: Wj n m l := (rfl)
theorem Arb (n m) : Pf n m [] = [] := (rfl)
theorem Amo (n m j x l) : Pf n m ((j, some x) :: l) = (if j = m then (j, none) else (j, some (x.ren n m))) :: Pf n m l := (rfl)
theorem Amn (n m j l) : Pf n m ((j, none) :: l) = (j, none) :: Pf n m l := (rfl)
theorem A5w (p : List PV → Prop) : (∀ c, c ∈ ([] : List (List PV)) → p c) = True := by simp
theorem Azv (x l) (p : List PV → Prop) : (∀ c, c ∈ x :: l → p c) = (p x ∧ ∀ c, c ∈ l → p c) := by simp
theorem Bai (d : Nat) (p : Nat → Prop) : (∃ n, SV.os d = SV.os n ∧ p n) = p d := propext ⟨fun ⟨n, e, h⟩ => by cases e; exact h, fun h => ⟨d, rfl, h⟩⟩
theorem A50 (d : Nat) (z z' : SV) (p : Nat → Prop) : (∃ n, SV.tup [.os d, z] = SV.tup [.os n, z'] ∧ p n) = (z = z' ∧ p d) := propext ⟨fun ⟨n, e, h⟩ => by cases e; exact ⟨rfl, h⟩, fun ⟨e, h⟩ => ⟨d, by rw [e], h⟩⟩
theorem Ac0 (l : List UInt8) (n : Nat) : (Am l).take n = Am (l.take n) := by simp [Am]
theorem Ac1 (l : List UInt8) (n : Nat) : (Am l).drop n = Am (l.drop n) := by simp [Am]
attribute [go_sem] Ac1 Ac0 List.take_length A5w Azv Bai A50 List.length_cons List.length_nil K6 Ayn Zh Av9 A3n Bca A8d Bcd r_p Bcb Bcc Bce A8f A8e Bcf A3r Axr A3p A3q Ara Amm Arb Amo Amn Om Ak4 Hz Asw Ahj Ay6 Int.natCast_zero Aym Amf Sg Av8 Av7 A3l A3k A3m Bh Kk A4f Baq Bar Bas Bat Bau Bav Auu A0 Nat.mul_one Bool.false_xor Bool.true_xor
section slices
variable (E : Env)
theorem Bbe (n x d s K) : body E (.eqn n) x d s K = Aw d s.h (.eqn n) (Bu s x) K := (rfl)
theorem Asa (d h n f z es K) : Aw d h (.eqn n) [.pv (.sl f z es)] K = Tf n (some es) K := (rfl)
theorem Aui (n es K) : Tf n (some es) K = ∀ b : Bool, (es ≠ [] → b = false) → K (.pv (.b (n ^^ b))) [] := (rfl)
attribute [go_sem] Bbe Asa Aui Nat.sub_zero
end slices
section own
variable {P : Program} {F : Fr} {N : Nat} {ρ : Nat → Value} {s : FS} {a : Act} {w w' : World} {K : KK} {V : View}
def A4p (ρ : Nat → Value) (h : Nat → Option Blk) (ts : List Nat) (b : Nat) : Prop := ∃ n ∈ ts, ∃ blk, h n = some blk ∧ Cs (ρ n) = some b
theorem Afn (hm : P.follows .mixedOrders = true) {f N' : Nat} {rs : List Rv} {c : C} (hf : Bf P f = some (N', rs, c)) {args : List SV} {h : Nat → Option Blk} {d : Nat} {sz : Nat} {es : List (List PV)} (hlen : args.length ≤ N')
 (hargs : Bc args = true) (hx : SV.closedL args = true ∨ ∀ c ∈ es, c.all PV.flat = true) (hrun : ∀ F, sx (Z6 P F N') c (Yi rs fun y g => (∃ n, y = .os n ∧ g n = some (.row sz es)) ∨ ∃ z, y = .pv (.sl true z []) ∧ es = [] ∧ 0 < sz) (mk (C4 0 (Ct h args)) [])) :
 FunOk P f args h d (.os d) [.new d (.row sz es)] := by
 refine ⟨Cj hf, fun F N ρ s a w hR hh vs hc => ?_⟩;refine Calls.mono (Dr hm hf (h := h) hlen hargs Ni hrun hR hh hc) fun e w' he => ?_;obtain ⟨v, rfl, hg, N'', ρ', s', a', y, hR', hy, hyy⟩ := he;rcases hyy with ⟨n, rfl, hn⟩ | ⟨z, rfl, rfl, hsz⟩
 case inr =>
  simp only [Conc] at hy;have hv : ∃ base, v = .slice base 0 0 := by
   cases hy with
   | sl full sz es b cap cs bl off arr hcap hfull hsz ha hcs hel =>
     have := hfull rfl;simp at this;subst this;exact ⟨b, rfl⟩
  obtain ⟨base, rfl⟩ := hv;obtain ⟨h1, _⟩ := (hR.grew hg).new (Grew.refl w') d (.row sz []) (.slice base 0 0) (fun b hb => by cases base <;> simp [Cs] at hb) (fun V' _ => ⟨base, 0, by rw [A4]; rfl, Nat.le_refl _, hsz, by simp, fun h => absurd rfl h⟩);exact ⟨_, _, rfl, h1, Gz⟩
 simp only [Conc] at hy;obtain ⟨base, cap, g1, g2, g3, g4, g5⟩ := hR'.own n _ hn;have hown : ∀ b, Cs (ρ' n) = some b → w.heap.size ≤ b ∧ b < w'.heap.size := fun b hb => by
  have ho : Ck ρ' s'.h b := ⟨n, _, hn, hb⟩
  exact ⟨(hR'.may b ho).resolve_right id, hR'.lt ho⟩
 have hnew := hR.adopt hg d (.row sz es) (ρ' n) hown fun hV => by
  refine ⟨base, cap, by rw [A4]; exact g1, g2, g3, g4, fun hcap => ?_⟩;obtain ⟨b, vs', ty, fr, k1, k2, k3, k4, k5, k6⟩ := g5 hcap;refine ⟨b, vs', ty, fr, k1, k2, k3, k4, k5, fun i c hi => ?_⟩;rcases hx with hx | hx
  · obtain ⟨e1, _, _⟩ := Bl hx;rw [e1, Dk] at hR' k6;refine (k6 i c hi).mono (Bi fun b' c' ho hc' => ⟨fun hb' => ?_, hc'⟩);rcases hb' with ⟨m, z, hm1, hm2⟩ | hb'
    · by_cases hmd : m = d
      · subst hmd;rw [A4] at hm2;exact ho (.inl ⟨n, _, hn, hm2⟩)
      · rw [B0 hmd] at hm2;simp only [FS.seth, FS.kill, hmd, if_false] at hm1;obtain ⟨z', hz', _⟩ := Option.map_eq_some_iff.1 hm1;exact ho (.inr (.inl ⟨m, z', hz', hm2⟩))
    · exact ho (.inr (.inr hb'))
  · exact Jh (hx c (List.mem_of_getElem? hi)) (k6 i c hi)
 refine ⟨v, _, rfl, hnew.1, ?_⟩;simp only [Conc];exact ⟨by rw [A4]; exact hy.1, hy.2⟩
theorem Azx (x : PV) (p : Nat → Prop) : (∃ n, SV.pv x = SV.os n ∧ p n) = False := by simp
theorem At9 (n : Nat) (q : Prop) : (∃ z, SV.os n = SV.pv (.sl true z []) ∧ q) = False := by simp
theorem A51 (z0 : Nat) (q : Prop) : (∃ z, SV.pv (.sl true z0 []) = SV.pv (.sl true z []) ∧ q) = q := propext ⟨fun ⟨_, _, h⟩ => h, fun h => ⟨z0, rfl, h⟩⟩
attribute [go_sem] Azx At9 A51 false_or or_false Al1 Axl A0m A2g Azc List.cons_append List.nil_append
end own
end Go.Proofs.YtannaphhhkncoaaGreat.Fw
namespace Go.Proofs.YtannaphhhkncoaaGreat.Fw
open Go.RowKit
variable {P : Program} {F : Fr} {N M : Nat} {ρ : Nat → Value} {s : FS} {a b : Act} {w w' : World} {V : View} {X : Frs}
def sh : Nat := 1000001
def gh : Nat := 1000000
theorem Aiu : gh = Eo := rfl
theorem Ahq : sh = Eo + 1 := rfl
attribute [irreducible] sh gh
def FS.dn (s : FS) : FS := ⟨fun n => s.t (n + sh), s.h⟩
def FS.enter (s : FS) (args : List SV) : FS := ⟨fun n => if n < Eo then lk .dead n (C4 0 args) else if n = gh then .pv (.i .i64 0) else s.t (n - sh), s.h⟩
def Q4 : List Nat → List SV → List (Nat × SV)
 | p :: ps, x :: l => (p, x) :: Q4 ps l
 | _, _ => []
def FS.round (s : FS) (ps : List Nat) (args : List SV) : FS := ⟨fun n => if n < Eo then lk (s.t (n + sh)) n (Q4 ps args).reverse else if n = gh then .dead else s.t (n - sh), s.h⟩
def Ih (g : Int) : Option Code := if g = 0 then none else if g = 1 then some .ret else some (.exit (g - 2).toNat)
def Gr (fn : Nat) (tm : Array Value) (qs : Array Tmp) (as bd : Code) (D : Nat) (st : LoopState) (pe : Option Code) : Obj := .loop { state := st, pending := pe, fn, tmps := tm, params := qs, assign := as, body := bd, defers := D }
theorem Wm (w : World) (l : Nat) (o o' : Obj) : (w.putObj l o).putObj l o' = w.putObj l o' := by
 simp only [World.putObj, World.mk.injEq, and_true, true_and];apply Array.ext_getElem?;intro i;simp only [Array.getElem?_setIfInBounds, Array.size_setIfInBounds];by_cases h : l = i
 · simp [h]
 · simp [h]
theorem Aej {w : World} {l : Nat} {o : Obj} (h : w.heap[l]? = some o) : w.putObj l o = w := by
 have : w.heap.setIfInBounds l o = w.heap := by
  apply Array.ext_getElem?;intro i;simp only [Array.getElem?_setIfInBounds];by_cases e : l = i
  · subst e;obtain ⟨h1, h2⟩ := Array.getElem?_eq_some_iff.1 h;simp [h1, h2]
  · simp [e]
 unfold World.putObj;rw [this]
theorem RelR.turn {F1 F2 : Fr} {s' : FS} (h : RelR F1 M ρ s b w) (e0 : F2.w0 = F1.w0) (e1 : F2.M0 = F1.M0) (e2 : F2.hid = F1.hid) (eh : s'.h = s.h) (hs : a.tmps.size = N) (hd : a.defers = F2.defs) (ht : ∀ n, Conc (Az w (F1.out ρ s.h)) ρ (s'.t n) (F2.val a n)) : RelR F2 N ρ s' a w := by
 have ho : F2.out ρ s.h = F1.out ρ s.h := by unfold Fr.out; rw [e2]
 refine ⟨⟨by rw [e0]; exact h.fr.os, by rw [e0]; exact h.fr.tape, by rw [e0]; exact h.fr.output, by rw [e0]; exact h.fr.size, by rw [e0, e1]; exact h.fr.block, by rw [e0, e1, e2]; exact h.fr.hid, by rw [e0, e1]; exact h.fr.tab⟩, by rw [eh, e0, e1]; exact h.may, by rw [eh, ho]; exact h.own, by rw [eh]; exact h.inj, by rw [eh, ho]; exact ht, hs, hd⟩
def Fb (F : Fr) (a : Act) (w0 : World) (B : Nat) (l : Nat) (o : LoopState → Option Code → Obj) (g : Int) : Fr :=
 ⟨w0.putObj l (o (if g = 0 then .ready else .done) (Ih g)), fun b => F.M0 b ∨ (F.w0.heap.size ≤ b ∧ b < B), F.hid, fun n => if n = gh then .int .i64 g else F.val a (n - sh), []⟩
theorem U9 (F a w0 B l o g) : (Fb F a w0 B l o g).val b gh = .int .i64 g := by
 unfold Fr.val;rw [if_neg (by have := Aiu; omega)];simp only [Fb, if_true]
theorem Aca (F a w0 B l o g) (n : Nat) : (Fb F a w0 B l o g).val b (n + sh) = F.val a n := by
 have h1 := Aiu;have h2 := Ahq;rw [Fr.val, if_neg (by omega)];simp only [Fb];rw [if_neg (by omega), Nat.add_sub_cancel]
theorem Ay0 (F a w0 B l o g g') {n : Nat} (h : n ≠ gh) : (Fb F a w0 B l o g').val b n = (Fb F a w0 B l o g).val b n := by
 unfold Fr.val;split
 · rfl
 · simp only [Fb];rw [if_neg h, if_neg h]
structure ItCtx (P : Program) (N : Nat) (ps : List Nat) (ca cb : C) (l : Nat) (XI : Frs) : Prop where
 ctx : ∃ (F : Fr) (a : Act) (w0 : World) (B fn D : Nat) (qs : Array Tmp) (as bd : Code),
  (XI = fun F' => ∃ g : Int, 0 ≤ g ∧ F' = Fb F a w0 B l (Gr fn a.tmps qs as bd D) g) ∧ Bn P N as = some ca ∧ Bn P N bd = some cb ∧ qs.toList = ps ∧ (∀ p ∈ ps, p < N ∧ p < Eo) ∧
  a.tmps.size = N ∧ B ≤ l ∧ l < w0.heap.size ∧ ¬ F.M0 l
theorem Aog (ps : List (Nat × Value)) : ∀ (t : Array Value), (ps.foldl (fun t (p, v) => t.setIfInBounds p v) t).size = t.size := by
 induction ps with
 | nil => intro t; rfl
 | cons p ps ih => intro t; rw [List.foldl_cons, ih]; simp
theorem Aem {x0 : SV} : ∀ {ps : List Nat} {args : List SV} {vs : List Value} {t : Array Value} {n : Nat}, (∀ p ∈ ps, p < t.size) → ConcL V ρ args vs → ps.length = vs.length → ∀ (l : List (Nat × SV)),
 Conc V ρ (lk x0 n l) (t.getD n undef) → Conc V ρ (lk x0 n ((Q4 ps args).reverse ++ l)) (((ps.zip vs).foldl (fun t (p, v) => t.setIfInBounds p v) t).getD n undef)
 | [], args, vs, t, n, _, hc, hl, l, h => by simpa [Q4] using h
 | p :: ps, args, vs, t, n, hp, hc, hl, l, h => by
   cases args with
   | nil => simp only [ConcL] at hc; subst hc; simp at hl
   | cons x args =>
     simp only [ConcL] at hc;obtain ⟨v, us, rfl, h1, h2⟩ := hc;have := Aem (x0 := x0) (ps := ps) (args := args) (vs := us) (t := t.setIfInBounds p v) (n := n) (fun q hq => by simpa using hp q (List.mem_cons_of_mem _ hq)) h2 (by simpa using hl) ((p, x) :: l) (by
      simp only [lk];rw [Array.getD_eq_getD_getElem?, Array.getElem?_setIfInBounds];by_cases e : n = p
      · subst e; simp [hp n List.mem_cons_self, h1]
      · rw [if_neg e, if_neg (Ne.symm e)];rw [Array.getD_eq_getD_getElem?] at h; exact h)
     simpa [Q4] using this
theorem Lf : ∀ {l : List SV} {vs : List Value}, ConcL V ρ l vs → vs.length = l.length
 | [], vs, h => by simp only [ConcL] at h; subst h; rfl
 | x :: l, vs, h => by
   simp only [ConcL] at h;obtain ⟨v, us, rfl, _, h⟩ := h;simp [Lf h]
def asQ (K : FS → Prop) : Ch
 | .normal, s => K s
 | _, _ => False
def Auw (K : KK) : Ch
 | .normal, s => K (.pv (.b true)) [.set s.dn.t s.dn.h]
 | .ret, s => K (.pv (.b false)) [.set (s.dn.set gh (.pv (.i .i64 1))).t s.dn.h]
 | .exit k, s => K (.pv (.b false)) [.set (s.dn.set gh (.pv (.i .i64 (k + 2 : Nat)))).t s.dn.h]
def Ais (s : FS) : Option SV → FS
 | some y => s.set gh y
 | none => s
theorem Ahs {FB : Fr} {s2 : FS} {a3 : Act} {F : Fr} {a : Act} {w0 : World} {B l : Nat} {o : LoopState → Option Code → Obj} {g g' : Int} {x : Option SV} (h : RelR FB N ρ s2 a3 w)
 (e0 : FB.w0 = w0.putObj l (o (if g' = 0 then .ready else .done) (Ih g'))) (e1 : FB.M0 = (Fb F a w0 B l o g).M0) (e2 : FB.hid = F.hid) (e3 : FB.x = fun n => if sh ≤ n then (Fb F a w0 B l o g).val b (n - sh) else undef)
 (hb : b.tmps.size = M) (hbd : b.defers = []) (hx : (g' = g ∧ x = none) ∨ x = some (.pv (.i .i64 g'))) :
 RelR (Fb F a w0 B l o g') M ρ (Ais s2.dn x) b w := by
 have ho : (Fb F a w0 B l o g').out ρ s2.h = FB.out ρ s2.h := by
  unfold Fr.out;rw [e2]; rfl
 have hh : ∀ n, (Ais s2.dn x).h n = s2.h n := fun n => by cases x <;> rfl
 have hH : (Ais s2.dn x).h = s2.h := funext hh;refine ⟨⟨?_, ?_, ?_, ?_, ?_, ?_, ?_⟩, ?_, ?_, ?_, fun n => ?_, hb, hbd⟩
 · rw [h.fr.os, e0]; rfl
 · rw [h.fr.tape, e0]; rfl
 · rw [h.fr.output, e0]; rfl
 · have := h.fr.size; rw [e0] at this; exact this
 · have := h.fr.block; rw [e0, e1] at this; exact this
 · have := h.fr.hid; rw [e0, e1, e2] at this; exact this
 · have := h.fr.tab; rw [e0, e1] at this; exact this
 · rw [hH]; have := h.may; rw [e0, e1] at this; exact this
 · rw [hH, ho]; exact h.own
 · rw [hH]; exact h.inj
 · rw [hH, ho];have key : n ≠ gh ∨ x = none → Conc (Az w (FB.out ρ s2.h)) ρ (s2.dn.t n) ((Fb F a w0 B l o g').val b n) := fun hn => by
    have := h.tmps (n + sh);have hge : ¬ n + sh < Eo := by have := Ahq; omega
    rw [Fr.val, if_neg hge, e3] at this;simp only [Nat.add_sub_cancel, Nat.le_add_left, if_true] at this;have hv : (Fb F a w0 B l o g').val b n = (Fb F a w0 B l o g).val b n := by
     by_cases e : n = gh
     · rcases hn with hn | hn
       · exact absurd e hn
       · rcases hx with ⟨rfl, _⟩ | hx
         · rfl
         · rw [hn] at hx; cases hx
     · exact Ay0 _ _ _ _ _ _ _ _ e
    rw [hv]; exact this
   cases x with
   | none => exact key (.inr rfl)
   | some y =>
     simp only [Ais, FS.set];by_cases hn : n = gh
     · subst hn;rw [if_pos rfl];rcases hx with ⟨_, hx⟩ | hx
       · cases hx
       · cases hx;rw [U9];simp only [Conc];exact .i _ _
     · rw [if_neg hn];exact key (.inl hn)
theorem Ag6 (hm : P.follows .mixedOrders = true) {ps : List Nat} {ca cb : C} {l : Nat} {XI : Frs} (hc : ItCtx P N ps ca cb l XI) {args : List SV} {K : KK} (hg : s.t gh = .pv (.i .i64 0)) (hlen : args.length = ps.length)
 (hrun : ∀ XA XB, sx (Ff P (some l) XA N) ca (asQ fun s1 => sx (Ff P (some l) XB N) cb (Auw K) s1) (s.round ps args)) : (Ff P none XI M).yld l args K s := by
 obtain ⟨F, a, w0, B, fn, D, qs, as, bd, rfl, hca, hcb, hqs, hps, hsz, hBl, hl0, hM⟩ := hc;show Avy P _ M l args K s;rintro F' ρ b w ⟨g, hg0, rfl⟩ hR vs hvs;have eg : g = 0 := by
  have := hR.tmps gh;rw [hg, U9] at this;simp only [Conc] at this;generalize hv : Value.int .i64 g = v at this;cases this;cases hv; rfl
 subst eg;have hO : ∀ st pe, ∃ r : Loop, Gr fn a.tmps qs as bd D st pe = .loop r ∧ r = { state := st, pending := pe, fn, tmps := a.tmps, params := qs, assign := as, body := bd, defers := D } := fun st pe => ⟨_, rfl, rfl⟩
 have hlM : ¬ (F.M0 l ∨ (F.w0.heap.size ≤ l ∧ l < B)) := fun h => h.elim hM fun h => by omega
 have hlw : l < (w0.putObj l (Gr fn a.tmps qs as bd D .ready none)).heap.size := by simpa using hl0
 have hrec : w.heap[l]? = some (Gr fn a.tmps qs as bd D .ready none) := by
  rw [hR.fr.block l hlw hlM];exact World.putObj_heap_same hl0
 have hy := run_yield (P := P) (args := (⟨vs⟩ : Array Value)) hrec (by
  have := Lf hvs;show vs.length = qs.size;rw [this, hlen, ← hqs]; simp)
 refine ⟨fn, _, as, bd, hy, roundIn_of_wpIn (F := Gd none) trivial ?_⟩;simp only
 let FA : Fr := ⟨w0.putObj l (Gr fn a.tmps qs as bd D .ready none), fun b => F.M0 b ∨ (F.w0.heap.size ≤ b ∧ b < B), F.hid, fun n => if sh ≤ n then (Fb F a w0 B l (Gr fn a.tmps qs as bd D) 0).val b (n - sh) else undef, []⟩
 have hRA : RelR FA N ρ (s.round ps args) { tmps := (qs.zip (⟨vs⟩ : Array Value)).foldl (fun t (p, v) => t.setIfInBounds p v) a.tmps, defers := [] } w := by
  refine RelR.turn hR rfl rfl rfl rfl ?_ rfl fun n => ?_;rotate_left
  · have e : (qs.zip (⟨vs⟩ : Array Value)).foldl (fun t (p, v) => t.setIfInBounds p v) a.tmps = (ps.zip vs).foldl (fun t (p, v) => t.setIfInBounds p v) a.tmps := by
     rw [← Array.foldl_toList, Array.toList_zip, hqs]
    unfold Fr.val;simp only [FS.round];by_cases h1 : n < Eo
    · rw [if_pos h1, if_pos h1, e];have := Aem (x0 := s.t (n + sh)) (ps := ps) (t := a.tmps) (n := n) (fun p hp => by rw [hsz]; exact (hps p hp).1) hvs (by rw [Lf hvs, hlen]) [] (by
       simp only [lk];have := hR.tmps (n + sh);rw [Aca, Fr.val_lt h1] at this;exact this)
      rw [List.append_nil] at this;exact this
    · rw [if_neg h1, if_neg h1];by_cases h2 : n = gh
      · rw [if_pos h2]; simp only [Conc]
      · rw [if_neg h2];have h3 : sh ≤ n := by have := Aiu; have := Ahq; omega
        have e4 : FA.x n = (Fb F a w0 B l (Gr fn a.tmps qs as bd D) 0).val b (n - sh) := by
         show (if sh ≤ n then _ else undef) = _;rw [if_pos h3]
        rw [e4];exact hR.tmps (n - sh)
  · show ((qs.zip (⟨vs⟩ : Array Value)).foldl (fun t (p, v) => t.setIfInBounds p v) a.tmps).size = N;rw [← Array.foldl_toList, Aog]; exact hsz
 refine wpIn_mono (Jr (r := some l) (X := fun F => F = FA) hm hca (hrun _ (fun F => F = { FA with w0 := FA.w0.putObj l (Gr fn a.tmps qs as bd D .busy none) })) ⟨FA, rfl, ρ, hRA⟩) fun e a1 w1 he => ?_;cases e with
 | normal =>
   obtain ⟨s1, ⟨_, rfl, ρ1, hR1⟩, hrun2⟩ := he;have hrec1 : w1.heap[l]? = some (Gr fn a.tmps qs as bd D .ready none) := by
    rw [hR1.fr.block l hlw hlM];exact World.putObj_heap_same hl0
   refine ⟨_, run_beginRound hrec1 rfl, ?_⟩;have hR2 := hR1.obj (Gr fn a.tmps qs as bd D .busy none) hrec1 rfl hlw hlM;refine wpIn_mono (Jr (r := some l) (X := fun F => F = { FA with w0 := FA.w0.putObj l (Gr fn a.tmps qs as bd D .busy none) }) hm hcb hrun2 ⟨_, rfl, ρ1, hR2⟩) fun e a3 w3 he => ?_;have fin : ∀ (s2 : FS) (ρ2 : Nat → Value) (g' : Int) (x : Option SV) (jump : Option Code), RelR { FA with w0 := FA.w0.putObj l (Gr fn a.tmps qs as bd D .busy none) } N ρ2 s2 a3 w3 → jump = Ih g' → (jump.isNone = true ↔ g' = 0) → ((g' = 0 ∧ x = none) ∨ x = some (.pv (.i .i64 g'))) → 0 ≤ g' →
    K (.pv (.b jump.isNone)) [.set (Ais s2.dn x).t s2.dn.h] →
    ∃ v w', (Instr.endRound l jump).run P w3 = .ok v w' ∧ ∃ v' x u F' ρ', Ending.returned v = .returned v' ∧ K x u ∧ (∃ g : Int, 0 ≤ g ∧ F' = Fb F a w0 B l (Gr fn a.tmps qs as bd D) g) ∧ RelR F' M ρ' (s.hup u) b w' ∧ Conc (vw F' w' ρ' (s.hup u)) ρ' x v' := by
    intro s2 ρ2 g' x jump hR3 hj hji hx hg' hK;have hrec3 : w3.heap[l]? = some (Gr fn a.tmps qs as bd D .busy none) := by
     rw [hR3.fr.block l (by simpa [FA] using hlw) hlM];exact World.putObj_heap_same hlw
    have hst : (if jump.isNone then LoopState.ready else .done) = (if g' = 0 then .ready else .done) := by
     by_cases h : g' = 0
     · rw [if_pos h, if_pos (hji.2 h)]
     · rw [if_neg h, if_neg (fun e => h (hji.1 e))]
    refine ⟨_, _, run_endRound jump hrec3, _, .pv (.b jump.isNone), _, Fb F a w0 B l (Gr fn a.tmps qs as bd D) g', ρ2, rfl, hK, ⟨g', hg', rfl⟩, ?_, ?_⟩
    · have hR4 := hR3.obj (Gr fn a.tmps qs as bd D (if g' = 0 then .ready else .done) (Ih g')) hrec3 rfl (by simpa [FA] using hlw) hlM;have hb := Ahs (M := M) (b := b) (F := F) (a := a) (w0 := w0) (B := B) (l := l) (o := Gr fn a.tmps qs as bd D) (g := 0) (g' := g') (x := x) hR4 (by simp only [FA, Wm]) rfl rfl rfl hR.size hR.defers hx;have ew : w3.putObj l (.loop { state := if jump.isNone then .ready else .done, pending := jump, fn, tmps := a.tmps, params := qs, assign := as, body := bd, defers := D }) = w3.putObj l (Gr fn a.tmps qs as bd D (if g' = 0 then .ready else .done) (Ih g')) := by
       rw [hst, hj]; rfl
      show RelR _ M ρ2 (s.hup [.set _ _]) b (w3.putObj l (.loop { state := if jump.isNone then .ready else .done, pending := jump, fn, tmps := a.tmps, params := qs, assign := as, body := bd, defers := D }));rw [ew];have eh : s.hup [.set (Ais s2.dn x).t s2.dn.h] = (Ais s2.dn x) := by cases x <;> rfl
      rw [eh]; exact hb
    · simp only [Conc]; exact .b _
   cases e with
   | normal =>
     obtain ⟨s2, ⟨_, rfl, ρ2, hR3⟩, hK⟩ := he;exact fin s2 ρ2 0 none none hR3 rfl (by simp) (.inl ⟨rfl, rfl⟩) (by omega) hK
   | ret =>
     obtain ⟨s2, ⟨_, rfl, ρ2, hR3⟩, hK⟩ := he;exact fin s2 ρ2 1 (some (.pv (.i .i64 1))) (some .ret) hR3 rfl (by simp) (.inr rfl) (by omega) hK
   | exit k =>
     obtain ⟨s2, ⟨_, rfl, ρ2, hR3⟩, hK⟩ := he;refine fin s2 ρ2 ((k + 2 : Nat) : Int) (some (.pv (.i .i64 ((k + 2 : Nat) : Int)))) (some (.exit k)) hR3 ?_ (by simp; omega) (.inr rfl) (by omega) hK;unfold Ih;rw [if_neg (by omega), if_neg (by omega)];congr 2; omega
   | goto _ => exact he.elim
   | panic _ => exact he.elim
   | outgrown => exact he.elim
 | exit id => obtain ⟨_, _, h⟩ := he; exact h.elim
 | ret => obtain ⟨_, _, h⟩ := he; exact h.elim
 | goto _ => exact he.elim
 | panic _ => exact he.elim
 | outgrown => exact he.elim
end Go.Proofs.YtannaphhhkncoaaGreat.Fw
namespace Go.Proofs.YtannaphhhkncoaaGreat.Fw
open Go.RowKit
variable {P : Program} {F : Fr} {N M : Nat} {ρ : Nat → Value} {s : FS} {a b : Act} {w w' : World} {V : View} {X : Frs}
def itK (Q : Ch) (s : FS) : SV → Prop
 | .pv (.i _ g) => if g = 0 then Q .normal s.dn else if g = 1 then Q .ret s.dn else Q (.exit (g - 2).toNat) s.dn
 | _ => False
def itQ (Q : Ch) : Ch
 | .normal, s => itK Q s (s.t gh)
 | .ret, s => itK Q s (s.t gh)
 | _, _ => False
theorem Afd (F a w0 B l o g) (h : Nat → Option Blk) : (Fb F a w0 B l o g).out ρ h = F.out ρ h := rfl
theorem Ou (F a w0 B l o g) (b) : (Fb F a w0 B l o g).M0 b = (F.M0 b ∨ (F.w0.heap.size ≤ b ∧ b < B)) := rfl
theorem Ayz (F a w0 B l o) (h : w0.heap[l]? = some (o .ready none)) : (Fb F a w0 B l o 0).w0 = w0 := by
 show w0.putObj l (o (if (0 : Int) = 0 then .ready else .done) (Ih 0)) = w0;exact Aej h
theorem A3d (hm : P.follows .mixedOrders = true) {F0 : Fr} {f : Nat} {cap : List SV} {ps : List Nat} {ca cb cf : C} {Q : Ch} (hf : Bf P f = some (M, [], cf)) (hlen : cap.length + 1 ≤ M)
 (hrun : ∀ l XI, ItCtx P N ps ca cb l XI → sx (Ff P none XI M) cf (itQ Q) (s.enter (.fn (.yield l) [] :: cap))) : (Ff P none (Desc F0) N).rng f cap ps ca cb Q s := by
 show A1t P none (Desc F0) N f cap ps ca cb Q s;intro as bd g qs hca hcb hqs hps F ρ a w hd hR hg;obtain ⟨fn, code, h1, h2, h3, h4, h5, h6⟩ := O2 hf;have hMb := Rs hf;subst h4;simp only [Conc] at hg;obtain ⟨cv, hgv, hcap⟩ := hg;refine wpIn_rangeFunc fun fn' _ => ?_;obtain ⟨O, hO⟩ : ∃ O, O = Gr fn' a.tmps qs as bd w.heap.size := ⟨_, rfl⟩
 obtain ⟨W1, hW1⟩ : ∃ W1, (w.alloc (.deferred (some []))).alloc (O .ready none) = W1 := ⟨_, rfl⟩
 have hl1 : W1.heap[w.heap.size + 1]? = some (O .ready none) := by
  rw [← hW1]; have := World.alloc_heap_new (w.alloc (.deferred (some []))) (O .ready none); rwa [World.size_alloc] at this
 have hD1 : W1.heap[w.heap.size]? = some (.deferred (some [])) := by
  rw [← hW1]; exact (Below.heap_alloc _ _ _ (by simp)).trans (World.alloc_heap_new w _)
 have hbel : Below w.heap.size w W1 := by
  rw [← hW1]; exact (((Below.refl _ w).alloc (Nat.le_refl _) _).alloc (by simp) _)
 have hsz1 : w.heap.size + 1 < W1.heap.size := (Array.getElem?_eq_some_iff.1 hl1).1;have hgrew := Grew.of_below hbel;have hR1 := hR.grew hgrew;have hMw : ∀ b, F.M0 b → b < w.heap.size := fun b hb => Nat.lt_of_lt_of_le (hd.m0 b hb) hR.fr.size;have hent : Pc P f := Cj hf;refine ⟨w.heap.size + 1, [{ target := .collected w.heap.size, args := #[] }], W1, { target := .fn (.func f) ⟨cv⟩, args := #[.func (.yield (w.heap.size + 1)) #[] #[]] }, W1, f,
  (#[Value.func (.yield (w.heap.size + 1)) #[] #[]] : Array Value) ++ ⟨cv⟩, W1, ?_, ?_, fun _ _ => trivial, ?_, fun h => (nomatch h), ?_⟩
 · rw [← hW1, hO]; exact run_enterLoop_outer _ _ _ _ _
 · simp only [resolve, hgv];simp [go_sem]
 · simp only [invoke];exact Qy hent
 have hctx : ItCtx P N ps ca cb (w.heap.size + 1) (fun F' => ∃ g : Int, 0 ≤ g ∧ F' = Fb F a W1 w.heap.size (w.heap.size + 1) O g) :=
  ⟨F, a, W1, w.heap.size, fn', w.heap.size, qs, as, bd, by rw [hO], hca, hcb, hqs, hps, hR.size, by omega, hsz1, fun h => by have := hMw _ h; omega⟩
 have hl0 : F.w0.heap.size ≤ w.heap.size := hR.fr.size;have hRI : RelR (Fb F a W1 w.heap.size (w.heap.size + 1) O 0) fn.ntmps ρ (s.enter (.fn (.yield (w.heap.size + 1)) [] :: cap)) { tmps := ((#[Value.func (.yield (w.heap.size + 1)) #[] #[]] : Array Value) ++ (⟨cv⟩ : Array Value)) ++ Array.replicate (fn.ntmps - ((#[Value.func (.yield (w.heap.size + 1)) #[] #[]] : Array Value) ++ (⟨cv⟩ : Array Value)).size) undef, defers := [] } W1 := by
  have hcl := Lf hcap;refine ⟨?_, fun b hb => ?_, ?_, hR1.inj, fun n => ?_, by simp; omega, rfl⟩
  · have e := Ayz F a W1 w.heap.size (w.heap.size + 1) O hl1;refine ⟨by rw [e], by rw [e], by rw [e], by rw [e]; exact Nat.le_refl _, fun b _ _ => by rw [e], fun b hb => ?_, ⟨by rw [e]; exact hR1.tabW, fun p hp hm => by
     rw [Ou] at hm;rcases hm with hm | hm
     · exact hR.fr.tab.2 p hp hm
     · have := Hm (hR.fr.tab.1 p hp); omega⟩⟩
    rw [e, Ou];have := hR.fr.hid b hb;exact ⟨by omega, fun h => h.elim this.2 fun h => by omega⟩
  · rw [Ou];rcases hR.may b hb with h | h
    · exact .inr (.inr ⟨h, hR.lt hb⟩)
    · exact .inr (.inl h)
  · rw [Afd]; exact hR1.own
  · rw [Afd];show Conc _ ρ (if n < Eo then _ else if n = gh then _ else _) _;by_cases hn : n < Eo
    · rw [if_pos hn, Fr.val_lt hn];have hcv : ConcL (vw F W1 ρ s) ρ (.fn (.yield (w.heap.size + 1)) [] :: cap) (.func (.yield (w.heap.size + 1)) #[] #[] :: cv) := by
       simp only [ConcL];exact ⟨_, _, rfl, by simp only [Conc, ConcL]; exact ⟨[], rfl, rfl⟩, hcap.mono (hR.le_of_grew hgrew)⟩
      have := Hq 0 n hcv;simp only [Nat.zero_le, if_true, Nat.sub_zero] at this;have he : (((#[Value.func (.yield (w.heap.size + 1)) #[] #[]] : Array Value) ++ (⟨cv⟩ : Array Value)) ++ Array.replicate (fn.ntmps - ((#[Value.func (.yield (w.heap.size + 1)) #[] #[]] : Array Value) ++ (⟨cv⟩ : Array Value)).size) undef).getD n undef = ((Value.func (.yield (w.heap.size + 1)) #[] #[] :: cv)[n]?).getD undef := by
       have ea : ((#[Value.func (.yield (w.heap.size + 1)) #[] #[]] : Array Value) ++ (⟨cv⟩ : Array Value)) = (⟨.func (.yield (w.heap.size + 1)) #[] #[] :: cv⟩ : Array Value) := Array.toList_inj.1 (by simp);rw [ea, Array.getD_eq_getD_getElem?];by_cases hn : n < (Value.func (.yield (w.heap.size + 1)) #[] #[] :: cv).length
       · rw [Array.getElem?_append_left (by simpa using hn)]; simp
       · rw [Array.getElem?_append_right (by simpa using hn)];rw [List.getElem?_eq_none (by omega)];simp only [Array.getElem?_replicate, Option.getD_none];split <;> rfl
      rw [he]; exact this
    · rw [if_neg hn];by_cases h2 : n = gh
      · rw [if_pos h2, h2, U9]; simp only [Conc]; exact .i _ _
      · rw [if_neg h2];have h3 : n = (n - sh) + sh := by have := Aiu; have := Ahq; omega
        have e4 : (Fb F a W1 w.heap.size (w.heap.size + 1) O 0).val { tmps := ((#[Value.func (.yield (w.heap.size + 1)) #[] #[]] : Array Value) ++ (⟨cv⟩ : Array Value)) ++ Array.replicate (fn.ntmps - ((#[Value.func (.yield (w.heap.size + 1)) #[] #[]] : Array Value) ++ (⟨cv⟩ : Array Value)).size) undef, defers := [] } n = F.val a (n - sh) := by
         conv => lhs; rw [h3]
         exact Aca _ _ _ _ _ _ _ _
        rw [e4];exact hR1.tmps (n - sh)
 refine callsIn_of_wp (F := Gd none) (n := 0 - 1) h1 h3 trivial (wpIn_mono (n := 0 - 1) (Jr hm h6 (hrun _ _ hctx) ⟨_, ⟨0, by omega, rfl⟩, ρ, hRI⟩) fun e a' w' he => ?_);have hres : ∀ (F' : Fr) (ρ' : Nat → Value) (s' : FS), RelR F' fn.ntmps ρ' s' a' w' → ∃ v, (results fn a'.tmps).run P w' = .ok v w' := fun F' ρ' s' hR' => by
  obtain ⟨l, v, _, _, k3⟩ := T1 (P := P) (K := fun _ => True) hR' h5 trivial;exact ⟨v, k3⟩
 have fin : ∀ (s' : FS), RelX (fun F' => ∃ g : Int, 0 ≤ g ∧ F' = Fb F a W1 w.heap.size (w.heap.size + 1) O g) fn.ntmps s' a' w' → itK Q s' (s'.t gh) → a'.defers = [] ∧ ∃ v, (results fn a'.tmps).run P w' = .ok v w' ∧
  rangePost (Gd none) 0 P (w.heap.size + 1) (R6 (Desc F0) N Q) { a with defers := [{ target := .collected w.heap.size, args := #[] }] ++ a.defers } (.returned v) w' := by
  rintro s' ⟨_, ⟨g, hg0, rfl⟩, ρ', hR'⟩ hq;obtain ⟨v, hv⟩ := hres _ _ _ hR';refine ⟨hR'.defers, v, hv, ?_⟩;have hlM : ¬ (Fb F a W1 w.heap.size (w.heap.size + 1) O g).M0 (w.heap.size + 1) := by
   rw [Ou];rintro (h | h)
   · have := hMw _ h; omega
   · omega
  have hlt : w.heap.size + 1 < (Fb F a W1 w.heap.size (w.heap.size + 1) O g).w0.heap.size := by
   show _ < (W1.putObj _ _).heap.size;rw [World.putObj_size]; exact hsz1
  have hrec : w'.heap[w.heap.size + 1]? = some (O (if g = 0 then .ready else .done) (Ih g)) := by
   rw [hR'.fr.block _ hlt hlM];exact World.putObj_heap_same hsz1
  have hend := run_endLoop (P := P) (w := w') (l := w.heap.size + 1) (r := { state := if g = 0 then .ready else .done, pending := Ih g, fn := fn', tmps := a.tmps, params := qs, assign := as, body := bd, defers := w.heap.size }) (by rw [hrec, hO]; rfl) (by simp only; split <;> simp);refine ⟨Ih g, _, hend, ?_⟩;obtain ⟨oe, hoe⟩ : ∃ oe : Obj, oe = .loop { state := .exhausted, pending := Ih g, fn := fn', tmps := a.tmps, params := qs, assign := as, body := bd, defers := w.heap.size } := ⟨_, rfl⟩
  have hR2 := hR'.obj oe hrec (by rw [hO]; rfl) hlt hlM;have ew0 : (Fb F a W1 w.heap.size (w.heap.size + 1) O g).w0.putObj (w.heap.size + 1) oe = W1.putObj (w.heap.size + 1) oe := Wm _ _ _ _;have hR3 : RelR ⟨W1.putObj (w.heap.size + 1) oe, (Fb F a W1 w.heap.size (w.heap.size + 1) O g).M0, F.hid, F.x, [{ target := .collected w.heap.size, args := #[] }] ++ F.defs⟩ N ρ' s'.dn { a with defers := [{ target := .collected w.heap.size, args := #[] }] ++ a.defers } (w'.putObj (w.heap.size + 1) oe) := by
   refine RelR.turn hR2 ew0.symm rfl rfl rfl hR.size (by show _ ++ a.defers = _ ++ F.defs; rw [hR.defers]) fun n => ?_;have := hR2.tmps (n + sh);have e5 : ({ Fb F a W1 w.heap.size (w.heap.size + 1) O g with w0 := (Fb F a W1 w.heap.size (w.heap.size + 1) O g).w0.putObj (w.heap.size + 1) oe } : Fr).val a' (n + sh) = F.val a n := Aca F a W1 w.heap.size (w.heap.size + 1) O g n;rw [e5] at this;exact this
  have hdesc : Desc F0 ⟨W1.putObj (w.heap.size + 1) oe, (Fb F a W1 w.heap.size (w.heap.size + 1) O g).M0, F.hid, F.x, [{ target := .collected w.heap.size, args := #[] }] ++ F.defs⟩ := by
   have hb := hd.base;have hW : ∀ b, b < w.heap.size → (W1.putObj (w.heap.size + 1) oe).heap[b]? = w.heap[b]? := fun b hlt => by
    rw [World.putObj_heap_other (by omega)]; exact hgrew.block b hlt
   have hs1 : (W1.putObj (w.heap.size + 1) oe).heap.size = W1.heap.size := World.putObj_size;refine ⟨⟨?_, ?_, ?_, ?_, fun b hlt hm => ?_, hb.hid, hb.tab⟩, fun b h => ?_, fun b h => ?_, hd.hid, hd.x, ⟨w.heap.size, rfl, ?_, ?_, ?_, ?_, ?_⟩, ?_⟩
   · exact (hgrew.os.trans hR.fr.os).trans hb.os
   · exact (hgrew.tape.trans hR.fr.tape).trans hb.tape
   · exact (hgrew.output.trans hR.fr.output).trans hb.output
   · show _ ≤ (W1.putObj (w.heap.size + 1) oe).heap.size;rw [hs1]; have := hb.size; omega
   · show (W1.putObj (w.heap.size + 1) oe).heap[b]? = _;have h8 := hb.size;rw [hW b (by omega), hR.fr.block b (by omega) fun e => ?_]
     · exact hb.block b hlt hm
     · rcases hd.may b (.inr e) with h9 | h9
       · omega
       · exact hm h9
   · show b < (W1.putObj (w.heap.size + 1) oe).heap.size;rw [hs1];rcases h with h | h
     · have := hMw b h; omega
     · omega
   · have h' : (W1.putObj (w.heap.size + 1) oe).heap.size ≤ b ∨ (F.M0 b ∨ (F.w0.heap.size ≤ b ∧ b < w.heap.size)) := h;rw [hs1] at h';have h8 := hb.size;rcases h' with h | h | h
     · exact .inl (by omega)
     · exact hd.may b (.inr h)
     · exact .inl (by omega)
   · have := hb.size; omega
   · show _ < (W1.putObj (w.heap.size + 1) oe).heap.size;rw [hs1]; omega
   · rw [Ou];rintro (h | h)
     · have := hMw _ h; omega
     · omega
   · show (W1.putObj (w.heap.size + 1) oe).heap[w.heap.size]? = _;rw [World.putObj_heap_other (by omega)]; exact hD1
   · have hmk := hd.marks;intro e he;clear hR3 hR2 hR hR1 hRI hR';generalize F.defs = ds at hmk he
     induction ds with
     | nil => cases he
     | cons d ds ih =>
       obtain ⟨⟨E, rfl, _, k2, _⟩, hmk⟩ := hmk;rcases List.mem_cons.1 he with rfl | he
       · intro e;simp only [Target.collected.injEq] at e;omega
       · exact ih hmk he
   · have hbl := hR.fr.block;have key : ∀ (FF : Fr), FF.w0 = W1.putObj (w.heap.size + 1) oe → FF.M0 = (Fb F a W1 w.heap.size (w.heap.size + 1) O g).M0 → ∀ ds, Ag1 F0 F ds → Ag1 F0 FF ds := fun FF f1 f2 ds hmk => by
      induction ds with
      | nil => trivial
      | cons d ds ih =>
        obtain ⟨⟨E, rfl, k1, k2, k3, k4, k5⟩, hmk⟩ := hmk;refine ⟨⟨E, rfl, k1, ?_, ?_, ?_, k5⟩, ih hmk⟩
        · rw [f1, hs1]; omega
        · rw [f2, Ou];rintro (h | h)
          · exact k3 h
          · omega
        · rw [f1, hW E (by omega), hbl E k2 k3]; exact k4
     exact key ⟨W1.putObj (w.heap.size + 1) oe, (Fb F a W1 w.heap.size (w.heap.size + 1) O g).M0, F.hid, F.x, [{ target := .collected w.heap.size, args := #[] }] ++ F.defs⟩ rfl rfl _ hd.marks
  have hghv : ∃ k, s'.t gh = .pv (.i k g) := by
   have := hR'.tmps gh;rw [U9] at this;generalize s'.t gh = z at hq this;unfold itK at hq;split at hq
   · rename_i k g';simp only [Conc] at this;cases this;exact ⟨_, rfl⟩
   · exact hq.elim
  obtain ⟨k, hk⟩ := hghv;rw [hk] at hq;simp only [itK] at hq;rw [← hoe];have hrel : RelX (Desc F0) N s'.dn { a with defers := [{ target := .collected w.heap.size, args := #[] }] ++ a.defers } (w'.putObj (w.heap.size + 1) oe) := ⟨_, hdesc, ρ', hR3⟩
  unfold Ih;by_cases e0 : g = 0
  · rw [if_pos e0] at hq ⊢;exact ⟨s'.dn, hrel, hq⟩
  · rw [if_neg e0] at hq ⊢;by_cases e1 : g = 1
    · rw [if_pos e1] at hq ⊢;exact wpIn_ret ⟨s'.dn, hrel, hq⟩
    · rw [if_neg e1] at hq ⊢;exact wpIn_exit ⟨s'.dn, hrel, hq⟩
 cases e with
 | normal => obtain ⟨s', h, hq⟩ := he; exact fin s' h hq
 | ret => obtain ⟨s', h, hq⟩ := he; exact fin s' h hq
 | exit id => obtain ⟨_, _, h⟩ := he; exact h.elim
 | goto _ => exact he.elim
 | panic _ => exact he.elim
 | outgrown => exact he.elim
end Go.Proofs.YtannaphhhkncoaaGreat.Fw
namespace Go.Proofs.YtannaphhhkncoaaGreat.Fw
open Go.RowKit
def shT : List (Nat × SV) → List (Nat × SV)
 | [] => []
 | (j, x) :: l => (j + sh, x) :: shT l
def dnT : List (Nat × SV) → List (Nat × SV)
 | [] => []
 | (j, x) :: l => if sh ≤ j then (j - sh, x) :: dnT l else dnT l
def P2 : List (Nat × SV) → List (Nat × SV)
 | [] => []
 | (j, x) :: l => if j < Eo then (j, x) :: P2 l else P2 l
theorem Oo {α : Type} (d : α) (n : Nat) : ∀ (l m : List (Nat × α)), lk d n (l ++ m) = lk (lk d n m) n l
 | [], m => rfl
 | (j, x) :: l, m => by simp only [List.cons_append, lk, Oo d n l m]
theorem U7 {α : Type} (d : α) (n : Nat) : ∀ (l : List (Nat × α)), (∀ p ∈ l, p.1 ≠ n) → lk d n l = d
 | [], _ => rfl
 | (j, x) :: l, h => by
   simp only [lk];rw [if_neg (fun e => h (j, x) List.mem_cons_self e.symm)];exact U7 d n l fun p hp => h p (List.mem_cons_of_mem _ hp)
theorem W8 (n : Nat) : ∀ l : List (Nat × SV), lk .dead n (shT l) = if sh ≤ n then lk .dead (n - sh) l else .dead
 | [] => by simp [shT, lk]
 | (j, x) :: l => by
   simp only [shT, lk, W8 n l];by_cases h : sh ≤ n
   · simp only [h, if_true];by_cases e : n = j + sh
     · rw [if_pos e, if_pos (by omega)]
     · rw [if_neg e, if_neg (by omega)]
   · rw [if_neg (by omega), if_neg h, if_neg h]
theorem Ab4 (n : Nat) : ∀ l : List (Nat × SV), lk .dead n (dnT l) = lk .dead (n + sh) l
 | [] => by simp [dnT, lk]
 | (j, x) :: l => by
   simp only [dnT, lk];by_cases h : sh ≤ j
   · simp only [h, if_true, lk, Ab4 n l];by_cases e : n = j - sh
     · rw [if_pos e, if_pos (by omega)]
     · rw [if_neg e, if_neg (by omega)]
   · rw [if_neg h, if_neg (by omega), Ab4 n l]
theorem Ab3 (n : Nat) : ∀ l : List (Nat × SV), lk .dead n (P2 l) = if n < Eo then lk .dead n l else .dead
 | [] => by simp [P2, lk]
 | (j, x) :: l => by
   simp only [P2, lk];by_cases h : j < Eo
   · simp only [h, if_true, lk, Ab3 n l];by_cases e : n = j
     · subst e; simp [h]
     · simp [e]
   · rw [if_neg h, Ab3 n l];by_cases hn : n < Eo
     · simp only [hn, if_true]; rw [if_neg (by omega)]
     · simp [hn]
theorem Agr : ∀ (args : List SV) (k : Nat), ∀ p ∈ C4 k args, p.1 < k + args.length
 | [], k => by simp [C4]
 | x :: l, k => by
   intro p hp;simp only [C4, List.mem_cons] at hp;rcases hp with rfl | hp
   · simp
   · have := Agr l (k + 1) p hp;simp only [List.length_cons]; omega
theorem Aen : ∀ (ps : List Nat) (args : List SV), ∀ p ∈ Q4 ps args, p.1 ∈ ps
 | [], args => by simp [Q4]
 | q :: ps, [] => by simp [Q4]
 | q :: ps, x :: args => by
   intro p hp;simp only [Q4, List.mem_cons] at hp;rcases hp with rfl | hp
   · simp
   · exact List.mem_cons_of_mem _ (Aen ps args p hp)
theorem Auk (t h) (args : List SV) (hl : args.length ≤ Eo) : (mk t h).enter args = mk (C4 0 args ++ (gh, .pv (.i .i64 0)) :: shT t) h := by
 have h1 := Aiu;have h2 := Ahq;unfold FS.enter mk;congr 1;funext n;simp only;rw [Oo];by_cases hn : n < Eo
 · rw [if_pos hn];have : lk SV.dead n ((gh, .pv (.i .i64 0)) :: shT t) = .dead := by
    simp only [lk];rw [if_neg (by omega), W8, if_neg (by omega)]
   rw [this]
 · rw [if_neg hn, U7 _ n (C4 0 args) fun p hp e => by have := Agr args 0 p hp; omega];simp only [lk];by_cases e : n = gh
   · rw [if_pos e, if_pos e]
   · rw [if_neg e, if_neg e, W8, if_pos (by omega)]
theorem Bap (t h) : (mk t h).dn = mk (dnT t) h := by
 unfold FS.dn mk;congr 1;funext n;simp only [Ab4]
theorem Wg (t h) (ps : List Nat) (args : List SV) (hp : ∀ p ∈ ps, p < Eo) : (mk t h).round ps args = mk ((Q4 ps args).reverse ++ (P2 (dnT t) ++ shT t)) h := by
 have h1 := Aiu;have h2 := Ahq;unfold FS.round mk;congr 1;funext n;simp only;rw [Oo, Oo];by_cases hn : n < Eo
 · rw [if_pos hn];have e1 : lk SV.dead n (shT t) = .dead := by rw [W8, if_neg (by omega)]
   rw [e1, Ab3, if_pos hn, Ab4]
 · have hm : ∀ d : SV, lk d n (Q4 ps args).reverse = d := fun d => U7 _ _ _ fun p hpp e => by
    have := hp _ (Aen ps args p (List.mem_reverse.1 hpp)); omega
   have hm2 : ∀ d : SV, lk d n (P2 (dnT t)) = d := fun d => U7 _ _ _ fun p hpp e => by
    have : ∀ l : List (Nat × SV), ∀ p ∈ P2 l, p.1 < Eo := fun l => by
     induction l with
     | nil => simp [P2]
     | cons q l ih =>
       obtain ⟨j, x⟩ := q;intro p hp;simp only [P2] at hp;split at hp
       · rcases List.mem_cons.1 hp with rfl | hp
         · assumption
         · exact ih p hp
       · exact ih p hp
    have := this _ p hpp; omega
   rw [if_neg hn, hm, hm2, W8];by_cases e : n = gh
   · rw [if_pos e, if_neg (by omega)]
   · rw [if_neg e, if_pos (by omega)]
theorem Aqw : sh = 1000001 := by rw [Ahq]; rfl
theorem A5k : gh = 1000000 := by rw [Aiu]; rfl
theorem Axd : shT [] = [] := (rfl)
theorem Aqx (j x l) : shT ((j, x) :: l) = (j + 1000001, x) :: shT l := by simp only [shT, Aqw]
theorem Az5 : dnT [] = [] := (rfl)
theorem Aul (j x l) : dnT ((j, x) :: l) = if 1000001 ≤ j then (j - 1000001, x) :: dnT l else dnT l := by simp only [dnT, Aqw]
theorem Ast : P2 [] = [] := (rfl)
theorem Anc (j x l) : P2 ((j, x) :: l) = if j ≤ 999999 then (j, x) :: P2 l else P2 l := by
 have hb : Eo = 1000000 := rfl;simp only [P2];by_cases h : j ≤ 999999
 · rw [if_pos h, if_pos (by omega)]
 · rw [if_neg h, if_neg (by omega)]
theorem Ark (l) : Q4 [] l = [] := by cases l <;> rfl
theorem Amq (p x ps l) : Q4 (p :: ps) (x :: l) = (p, x) :: Q4 ps l := (rfl)
theorem Bbm (K s) : asQ K .normal s = K s := (rfl)
theorem A0o (K s) : Auw K .normal s = K (.pv (.b true)) [.set s.dn.t s.dn.h] := (rfl)
theorem A0n (K s) : Auw K .ret s = K (.pv (.b false)) [.set (s.dn.set gh (.pv (.i .i64 1))).t s.dn.h] := (rfl)
theorem A9t (Q s) : itQ Q .normal s = itK Q s (s.t gh) := (rfl)
theorem A9s (Q s) : itQ Q .ret s = itK Q s (s.t gh) := (rfl)
theorem A9v (Q s k) : itK Q s (.pv (.i k 0)) = Q .normal s.dn := by simp [itK]
theorem A9u (Q s k) : itK Q s (.pv (.i k 1)) = Q .ret s.dn := by simp [itK]
theorem A4o (t h) : (⟨(mk t h).t, (mk t h).h⟩ : FS) = mk t h := (rfl)
theorem Ayg (t t' h) : (⟨(mk t h).t, (mk t' h).h⟩ : FS) = mk t h := (rfl)
theorem A3f (rs R s) : Yh rs R .ret s = Wi rs R s := (rfl)
theorem A96 (n z cs x) : SV.frzv n z cs (.pv x) = .pv x := (rfl)
theorem A98 (n z cs f l) : SV.frzv n z cs (.fn f l) = .fn f (SV.frzvL n z cs l) := (rfl)
theorem A97 (n z cs m) : SV.frzv n z cs (.os m) = .os m := (rfl)
theorem Bc3 (n z cs m o) : SV.frzv n z cs (.p m o) = if n = m then .pi z [cs] 0 o else .p m o := (rfl)
theorem Azn (n z cs) : SV.frzvL n z cs [] = [] := (rfl)
theorem At0 (n z cs x l) : SV.frzvL n z cs (x :: l) = SV.frzv n z cs x :: SV.frzvL n z cs l := (rfl)
theorem Azm (n z cs) : Rq n z cs [] = [] := (rfl)
theorem Atz (n z cs j x l) : Rq n z cs ((j, x) :: l) = (j, x.frzv n z cs) :: Rq n z cs l := (rfl)
theorem Azo (n z cs) : Ha n z cs [] = [] := (rfl)
theorem At2 (n z cs j l) : Ha n z cs ((j, none) :: l) = (j, none) :: Ha n z cs l := (rfl)
theorem At1 (n z cs j x l) : Ha n z cs ((j, some x) :: l) = if j = n then (j, none) :: Ha n z cs l else (j, some (x.frzv n z cs)) :: Ha n z cs l := by
 simp only [Ha]; split <;> rfl
theorem Azp (n z cs a b) : Blk.frzv n z cs (.row a b) = .row a b := (rfl)
theorem Eu {T : List (Nat × SV)} {H : List (Nat × Option Blk)} {s' : FS} (n : Nat) {sz : Nat} {es : List (List PV)} (hn : lk none n H = some (.row sz es)) (h : Wk (mk (Yz n (.sl false sz es) T) (Ml n (.sl false sz es) H)) s') : Wk (mk T H) s' :=
 .frz n sz es hn (by rw [Aiw]; exact h)
theorem Awb {T : List (Nat × SV)} {H : List (Nat × Option Blk)} {s' : FS} (n : Nat) {x : SV} {cs : List PV} (hn : lk none n H = some (.var x)) (hc : x.cells? = some cs) (h : Wk (mk (Rq n x.width cs T) (Ha n x.width cs H)) s') : Wk (mk T H) s' :=
 .frzv n x cs hn hc (by rw [Azq]; exact h)
theorem Awa {T : List (Nat × SV)} {H : List (Nat × Option Blk)} {s' : FS} (m n sz : Nat) {z : Nat} (hm : lk none m H = some (.var (.pv (.sl true z [])))) (hmn : m ≠ n) (hs : 0 < sz) (h : Wk (mk (K4 n T) ((m, some (.var (.os n))) :: (n, some (.row sz [])) :: H0 n H)) s') : Wk (mk T H) s' :=
 .nilv m n z sz hm hmn hs (by rw [Rf, Od, Od]; exact h)
attribute [go_sem] Axd Aqx Az5 Aul Ast Anc Ark Amq Bbm A0o A0n A9t A9s A9v A9u A4o Ayg A3f Bap A5k A96 A98 A97 Bc3 Azn At0 Azm Atz Azo At2 At1 Azp List.reverse_cons List.reverse_nil
end Go.Proofs.YtannaphhhkncoaaGreat.Fw
namespace Go.Proofs.YtannaphhhkncoaaGreat.Fw
open Go.RowKit
variable {P : Program} {F : Fr} {N : Nat} {ρ ρ' : Nat → Value} {s : FS} {a : Act} {w w' : World} {V V' : View}
theorem Aob (hm : P.follows .mixedOrders = true) {f N' : Nat} {rs : List Rv} {c : C} (hf : Bf P f = some (N', rs, c)) {args : List SV} {h : Nat → Option Blk} {d : Nat} {z0 : SV} {sz : Nat} {es : List (List PV)} (hlen : args.length ≤ N')
 (hargs : Bc args = true) (hx : SV.closedL args = true ∨ ∀ c ∈ es, c.all PV.flat = true) (hzs : z0.scalar = true) (hrun : ∀ F, sx (Z6 P F N') c (Yi rs fun y g => (∃ n, y = .tup [.os n, z0] ∧ g n = some (.row sz es)) ∨ ∃ z, y = .tup [.pv (.sl true z []), z0] ∧ es = [] ∧ 0 < sz) (mk (C4 0 (Ct h args)) [])) :
 FunOk P f args h d (.tup [.os d, z0]) [.new d (.row sz es)] := by
 refine ⟨Cj hf, fun F N ρ s a w hR hh vs hc => ?_⟩;refine Calls.mono (Dr hm hf (h := h) hlen hargs Ni hrun hR hh hc) fun e w' he => ?_;obtain ⟨v, rfl, hg, N'', ρ', s', a', y, hR', hy, hyy⟩ := he;rcases hyy with ⟨n, rfl, hn⟩ | ⟨z, rfl, rfl, hsz⟩
 case inr =>
  simp only [Conc, ConcL] at hy;obtain ⟨tv, rfl, u1, us1, rfl, hy, u2, us2, rfl, hz2, rfl⟩ := hy;have hv : ∃ base, u1 = .slice base 0 0 := by
   cases hy with
   | sl full sz es b cap cs bl off arr hcap hfull hsz ha hcs hel =>
     have := hfull rfl;simp at this;subst this;exact ⟨b, rfl⟩
  obtain ⟨base, rfl⟩ := hv;obtain ⟨h1, _⟩ := (hR.grew hg).new (Grew.refl w') d (.row sz []) (.slice base 0 0) (fun b hb => by cases base <;> simp [Cs] at hb) (fun V' _ => ⟨base, 0, by rw [A4]; rfl, Nat.le_refl _, hsz, by simp, fun h => absurd rfl h⟩);exact ⟨_, _, rfl, h1, by simp only [Conc, ConcL]; exact ⟨_, rfl, _, _, rfl, by rw [A4]; exact ⟨rfl, trivial⟩, u2, _, rfl, E3 hzs hz2, rfl⟩⟩
 simp only [Conc, ConcL] at hy;obtain ⟨tv, rfl, u1, us1, rfl, hy, u2, us2, rfl, hz2, rfl⟩ := hy;obtain ⟨base, cap, g1, g2, g3, g4, g5⟩ := hR'.own n _ hn;have hown : ∀ b, Cs (ρ' n) = some b → w.heap.size ≤ b ∧ b < w'.heap.size := fun b hb => by
  have ho : Ck ρ' s'.h b := ⟨n, _, hn, hb⟩
  exact ⟨(hR'.may b ho).resolve_right id, hR'.lt ho⟩
 have hnew := hR.adopt hg d (.row sz es) (ρ' n) hown fun hV => by
  refine ⟨base, cap, by rw [A4]; exact g1, g2, g3, g4, fun hcap => ?_⟩;obtain ⟨b, vs', ty, fr, k1, k2, k3, k4, k5, k6⟩ := g5 hcap;refine ⟨b, vs', ty, fr, k1, k2, k3, k4, k5, fun i c hi => ?_⟩;rcases hx with hx | hx
  · obtain ⟨e1, _, _⟩ := Bl hx;rw [e1, Dk] at hR' k6;refine (k6 i c hi).mono (Bi fun b' c' ho hc' => ⟨fun hb' => ?_, hc'⟩);rcases hb' with ⟨m, z, hm1, hm2⟩ | hb'
    · by_cases hmd : m = d
      · subst hmd;rw [A4] at hm2;exact ho (.inl ⟨n, _, hn, hm2⟩)
      · rw [B0 hmd] at hm2;simp only [FS.seth, FS.kill, hmd, if_false] at hm1;obtain ⟨z', hz', _⟩ := Option.map_eq_some_iff.1 hm1;exact ho (.inr (.inl ⟨m, z', hz', hm2⟩))
    · exact ho (.inr (.inr hb'))
  · exact Jh (hx c (List.mem_of_getElem? hi)) (k6 i c hi)
 refine ⟨_, _, rfl, hnew.1, ?_⟩;simp only [Conc, ConcL];exact ⟨_, rfl, u1, _, rfl, ⟨by rw [A4]; exact hy.1, hy.2⟩, u2, _, rfl, E3 hzs hz2, rfl⟩
end Go.Proofs.YtannaphhhkncoaaGreat.Fw
namespace Go.Proofs.YtannaphhhkncoaaGreat.Fw
open Go.RowKit
section
variable {E : Env}
end
attribute [go_sem] A8q Am4 Am5
end Go.Proofs.YtannaphhhkncoaaGreat.Fw
namespace Go.Proofs.YtannaphhhkncoaaGreat.Fw
open Go.RowKit
variable {P : Program} {F : Fr} {N : Nat} {ρ : Nat → Value} {s : FS} {a : Act} {w : World} {V : View} {π : Nat → Nat}
mutual
def SV.rn (π : Nat → Nat) : SV → SV
 | .p m o => .p (π m) o
 | .ps m o => .ps (π m) o
 | .pr m s i o => .pr (π m) s i o
 | .os m => .os (π m)
 | .ov m z a b => .ov (π m) z a b
 | .agg l => .agg (SV.rnL π l)
 | .tup l => .tup (SV.rnL π l)
 | .fn f l => .fn f (SV.rnL π l)
 | x => x
def SV.rnL (π : Nat → Nat) : List SV → List SV
 | [] => []
 | x :: l => SV.rn π x :: SV.rnL π l
end
def Blk.rn (π : Nat → Nat) : Blk → Blk
 | .var x => .var (x.rn π)
 | b => b
def HU.rn (π : Nat → Nat) : HU → HU
 | .new n b => .new (π n) (b.rn π)
 | .upd n b => .upd (π n) (b.rn π)
 | .del n => .del (π n)
 | .frz n x => .frz (π n) x
 | .set t h => .set (fun k => (t k).rn π) (fun n => (h (π n)).map (Blk.rn π))
def FS.rn (s : FS) (π : Nat → Nat) : FS := ⟨fun k => (s.t k).rn π, fun n => (s.h (π n)).map (Blk.rn π)⟩
mutual
theorem Nb (π : Nat → Nat) : ∀ x : SV, (x.rn π).width = x.width
 | .agg l => by simp only [SV.rn, SV.width]; exact Y5 π l
 | .pv _ => rfl
 | .vec _ _ => rfl
 | .tup _ => rfl
 | .p _ _ => rfl
 | .ps _ _ => rfl
 | .pr _ _ _ _ => rfl
 | .pi _ _ _ _ => rfl
 | .os _ => rfl
 | .ov _ _ _ _ => rfl
 | .fn _ _ => rfl
 | .dead => rfl
theorem Y5 (π : Nat → Nat) : ∀ l : List SV, SV.widthL (SV.rnL π l) = SV.widthL l
 | [] => rfl
 | x :: l => by simp only [SV.rnL, SV.widthL, Nb π x, Y5 π l]
end
mutual
theorem Conc.rn (hπ : ∀ n, π (π n) = n) : ∀ {x : SV} {v}, Conc V ρ x v → Conc V (fun n => ρ (π n)) (x.rn π) v
 | .pv x, v, h => by simp only [SV.rn, Conc] at *; exact h
 | .vec n cs, v, h => by simp only [SV.rn, Conc] at *; exact h
 | .agg l, v, h => by simp only [SV.rn, Conc] at *; obtain ⟨vs, a, b⟩ := h; exact ⟨vs, a, Cells.rn hπ b⟩
 | .tup l, v, h => by simp only [SV.rn, Conc] at *; obtain ⟨vs, a, b⟩ := h; exact ⟨vs, a, ConcL.rn hπ b⟩
 | .p m off, v, h => by simp only [SV.rn, Conc, hπ] at *; exact h
 | .ps m off, v, h => by simp only [SV.rn, Conc, hπ] at *; exact h
 | .pr m sz i off, v, h => by simp only [SV.rn, Conc, hπ] at *; exact h
 | .pi sz es i off, v, h => by simp only [SV.rn, Conc] at *; exact h
 | .os m, v, h => by simp only [SV.rn, Conc, hπ] at *; exact h
 | .ov m z a b, v, h => by simp only [SV.rn, Conc, hπ] at *; exact h
 | .fn f cap, v, h => by simp only [SV.rn, Conc] at *; obtain ⟨vs, a, b⟩ := h; exact ⟨vs, a, ConcL.rn hπ b⟩
 | .dead, v, h => by simp only [SV.rn, Conc]
theorem ConcL.rn (hπ : ∀ n, π (π n) = n) : ∀ {l : List SV} {vs}, ConcL V ρ l vs → ConcL V (fun n => ρ (π n)) (SV.rnL π l) vs
 | [], vs, h => by simp only [SV.rnL, ConcL] at *; exact h
 | x :: l, vs, h => by simp only [SV.rnL, ConcL] at *; obtain ⟨u, us, a, b, c⟩ := h; exact ⟨u, us, a, Conc.rn hπ b, ConcL.rn hπ c⟩
theorem Cells.rn (hπ : ∀ n, π (π n) = n) : ∀ {l : List SV} {vs}, Cells V ρ l vs → Cells V (fun n => ρ (π n)) (SV.rnL π l) vs
 | [], vs, h => by simp only [SV.rnL, Cells] at *; exact h
 | x :: l, vs, h => by
   simp only [SV.rnL, Cells] at *;obtain ⟨u, us, a, b, c, d, e⟩ := h;exact ⟨u, us, a, Conc.rn hπ b, by rw [Nb]; exact c, d, Cells.rn hπ e⟩
end
mutual
theorem Aq7 (hπ : ∀ n, π (π n) = n) : ∀ x : SV, (x.rn π).rn π = x
 | .pv x => rfl
 | .vec n cs => rfl
 | .agg l => by simp only [SV.rn, Lv hπ l]
 | .tup l => by simp only [SV.rn, Lv hπ l]
 | .p m off => by simp only [SV.rn, hπ]
 | .ps m off => by simp only [SV.rn, hπ]
 | .pr m sz i off => by simp only [SV.rn, hπ]
 | .pi sz es i off => rfl
 | .os m => by simp only [SV.rn, hπ]
 | .ov m z a b => by simp only [SV.rn, hπ]
 | .fn f cap => by simp only [SV.rn, Lv hπ cap]
 | .dead => rfl
theorem Lv (hπ : ∀ n, π (π n) = n) : ∀ l : List SV, SV.rnL π (SV.rnL π l) = l
 | [] => rfl
 | x :: l => by simp only [SV.rnL, Aq7 hπ x, Lv hπ l]
end
theorem Alv (hπ : ∀ n, π (π n) = n) (b : Blk) : (b.rn π).rn π = b := by
 cases b with
 | var x => simp only [Blk.rn, Aq7 hπ x]
 | row sz es => rfl
 | rowc sz es c => rfl
 | it l p => rfl
theorem Own.rn (hπ : ∀ n, π (π n) = n) {n : Nat} {blk : Blk} (h : Own w V ρ (π n) blk) : Own w V (fun n => ρ (π n)) n (blk.rn π) := by
 cases blk with
 | var x =>
   obtain ⟨b, vs, ty, fr, u, g1, g2, g3, g4, g5, g6, g7⟩ := h;exact ⟨b, vs, ty, fr, u, g1, g2, g3, g4.rn hπ, g5, by rw [Nb]; exact g6, g7⟩
 | row sz es => exact h
 | rowc sz es c => exact h
 | it l p => exact h
theorem RelR.rn (hπ : ∀ n, π (π n) = n) (h : RelR F N ρ s a w) : RelR F N (fun n => ρ (π n)) (s.rn π) a w := by
 have hh : ∀ n x, (s.rn π).h n = some x → ∃ y, s.h (π n) = some y ∧ x = y.rn π := fun n x hx => by
  obtain ⟨y, h1, h2⟩ := Option.map_eq_some_iff.1 hx;exact ⟨y, h1, h2.symm⟩
 have how : ∀ b, Ck (fun n => ρ (π n)) (s.rn π).h b ↔ Ck ρ s.h b := fun b => by
  constructor
  · rintro ⟨n, x, h1, h2⟩;obtain ⟨y, h3, _⟩ := hh n x h1;exact ⟨π n, y, h3, h2⟩
  · rintro ⟨n, x, h1, h2⟩;exact ⟨π n, x.rn π, by simp only [FS.rn, hπ, h1]; rfl, by simpa only [hπ] using h2⟩
 have hV : Az w (F.out (fun n => ρ (π n)) (s.rn π).h) = Az w (F.out ρ s.h) := by
  congr 1;funext b;exact propext (or_congr_left (how b))
 refine ⟨h.fr, fun b hb => h.may b ((how b).1 hb), fun n x hx => ?_, fun n m x y b hn hm hbn hbm => ?_, fun n => ?_, h.size, h.defers⟩
 · obtain ⟨y, h1, rfl⟩ := hh n x hx;rw [hV];exact (h.own (π n) y h1).rn hπ
 · obtain ⟨x', h1, _⟩ := hh n x hn;obtain ⟨y', h2, _⟩ := hh m y hm;have := h.inj (π n) (π m) x' y' b h1 h2 hbn hbm;have := congrArg π this;simpa only [hπ] using this
 · rw [hV];exact (h.tmps n).rn hπ
mutual
theorem Ab8 (hπ : ∀ n, π (π n) = n) (n : Nat) : ∀ x : SV, (x.kill n).rn π = (x.rn π).kill (π n)
 | .pv x => rfl
 | .vec m cs => rfl
 | .agg l => by simp only [SV.kill, SV.rn, Rg hπ n l]
 | .tup l => by simp only [SV.kill, SV.rn, Rg hπ n l]
 | .p m off => by simp only [SV.kill, SV.rn, (S6 hπ n m)]; split <;> simp only [SV.rn]
 | .ps m off => by simp only [SV.kill, SV.rn, (S6 hπ n m)]; split <;> simp only [SV.rn]
 | .pr m sz i off => by simp only [SV.kill, SV.rn, (S6 hπ n m)]; split <;> simp only [SV.rn]
 | .pi sz es i off => rfl
 | .os m => by simp only [SV.kill, SV.rn, (S6 hπ n m)]; split <;> simp only [SV.rn]
 | .ov m z a b => by simp only [SV.kill, SV.rn, (S6 hπ n m)]; split <;> simp only [SV.rn]
 | .fn f cap => by simp only [SV.kill, SV.rn, Rg hπ n cap]
 | .dead => rfl
theorem Rg (hπ : ∀ n, π (π n) = n) (n : Nat) : ∀ l : List SV, SV.rnL π (SV.killL n l) = SV.killL (π n) (SV.rnL π l)
 | [] => rfl
 | x :: l => by simp only [SV.killL, SV.rnL, Ab8 hπ n x, Rg hπ n l]
theorem S6 (hπ : ∀ n, π (π n) = n) (n m : Nat) : (π n = π m) = (n = m) := propext ⟨fun h => by have := congrArg π h; simpa only [hπ] using this, fun h => by rw [h]⟩
end
mutual
theorem Aiv (hπ : ∀ n, π (π n) = n) (n : Nat) (v : PV) : ∀ x : SV, (x.frz n v).rn π = (x.rn π).frz (π n) v
 | .pv x => rfl
 | .vec m cs => rfl
 | .agg l => by simp only [SV.frz, SV.rn, Vg hπ n v l]
 | .tup l => by simp only [SV.frz, SV.rn, Vg hπ n v l]
 | .p m off => rfl
 | .ps m off => rfl
 | .pr m sz i off => rfl
 | .pi sz es i off => rfl
 | .os m => by simp only [SV.frz, SV.rn, (S6 hπ n m)]; split <;> simp only [SV.rn]
 | .ov m z a b => rfl
 | .fn f cap => by simp only [SV.frz, SV.rn, Vg hπ n v cap]
 | .dead => rfl
theorem Vg (hπ : ∀ n, π (π n) = n) (n : Nat) (v : PV) : ∀ l : List SV, SV.rnL π (SV.frzL n v l) = SV.frzL (π n) v (SV.rnL π l)
 | [] => rfl
 | x :: l => by simp only [SV.frzL, SV.rnL, Aiv hπ n v x, Vg hπ n v l]
end
theorem Aux (hπ : ∀ n, π (π n) = n) (n : Nat) (b : Blk) : (b.kill n).rn π = (b.rn π).kill (π n) := by
 cases b with
 | var x => simp only [Blk.kill, Blk.rn, Ab8 hπ n x]
 | row sz es => rfl
 | rowc sz es c => rfl
 | it l p => rfl
theorem A0t (hπ : ∀ n, π (π n) = n) (n : Nat) (v : PV) (b : Blk) : (b.frz n v).rn π = (b.rn π).frz (π n) v := by
 cases b with
 | var x => simp only [Blk.frz, Blk.rn, Aiv hπ n v x]
 | row sz es => rfl
 | rowc sz es c => rfl
 | it l p => rfl
theorem A1r (hπ : ∀ n, π (π n) = n) (n m : Nat) : (π n = m) = (n = π m) := propext ⟨fun h => by rw [← h, hπ], fun h => by rw [h, hπ]⟩
theorem Aqt (hπ : ∀ n, π (π n) = n) (n : Nat) (s : FS) : (s.kill n).rn π = (s.rn π).kill (π n) := by
 refine FS.ext' (fun k => Ab8 hπ n _) (fun k => ?_);simp only [FS.kill, FS.rn, Option.map_map];cases s.h (π k) with
 | none => rfl
 | some b => simp only [Option.map_some, Function.comp, Aux hπ n b]
theorem Abd (hπ : ∀ n, π (π n) = n) (n : Nat) (b : Option Blk) (s : FS) : (s.seth n b).rn π = (s.rn π).seth (π n) (b.map (Blk.rn π)) := by
 refine FS.ext' (fun k => rfl) (fun k => ?_);simp only [FS.seth, FS.rn, A1r hπ k n];split <;> rfl
theorem Axf (hπ : ∀ n, π (π n) = n) (n : Nat) (v : PV) (s : FS) : (s.frz n v).rn π = (s.rn π).frz (π n) v := by
 refine FS.ext' (fun k => Aiv hπ n v _) (fun k => ?_);simp only [FS.frz, FS.rn, A1r hπ k n, Option.map_map];split
 · rfl
 · cases s.h (π k) with
   | none => rfl
   | some b => simp only [Option.map_some, Function.comp, A0t hπ n v b]
theorem S7 (hπ : ∀ n, π (π n) = n) : ∀ (u : List HU) (s : FS), (s.hup u).rn π = (s.rn π).hup (u.map (HU.rn π))
 | [], s => rfl
 | .new n b :: u, s => by simp only [FS.hup, List.map_cons, HU.rn, S7 hπ u, Abd hπ, Aqt hπ]; rfl
 | .upd n b :: u, s => by simp only [FS.hup, List.map_cons, HU.rn, S7 hπ u, Abd hπ]; rfl
 | .del n :: u, s => by simp only [FS.hup, List.map_cons, HU.rn, S7 hπ u, Abd hπ]; rfl
 | .frz n v :: u, s => by simp only [FS.hup, List.map_cons, HU.rn, S7 hπ u, Axf hπ]
 | .set t h :: u, s => by simp only [FS.hup, List.map_cons, HU.rn, S7 hπ u]; rfl
mutual
theorem A72 (hπ : ∀ n, π (π n) = n) {k : Nat} : ∀ {x : SV}, k ∈ tn (x.rn π) → π k ∈ tn x
 | .p m o, h => by simp only [SV.rn, tn, List.mem_singleton] at *; rw [h, hπ]
 | .ps m o, h => by simp only [SV.rn, tn, List.mem_singleton] at *; rw [h, hπ]
 | .pr m z i o, h => by simp only [SV.rn, tn, List.mem_singleton] at *; rw [h, hπ]
 | .os m, h => by simp only [SV.rn, tn, List.mem_singleton] at *; rw [h, hπ]
 | .ov m z a b, h => by simp only [SV.rn, tn, List.mem_singleton] at *; rw [h, hπ]
 | .fn f cap, h => by simp only [SV.rn, tn] at *; exact Oa hπ h
 | .pv _, h => by simp [SV.rn, tn] at h
 | .vec _ _, h => by simp [SV.rn, tn] at h
 | .agg l, h => by simp only [SV.rn, tn] at *; exact Oa hπ h
 | .tup l, h => by simp only [SV.rn, tn] at *; exact Oa hπ h
 | .pi _ _ _ _, h => by simp [SV.rn, tn] at h
 | .dead, h => by simp [SV.rn, tn] at h
theorem Oa (hπ : ∀ n, π (π n) = n) {k : Nat} : ∀ {l : List SV}, k ∈ Bd (SV.rnL π l) → π k ∈ Bd l
 | [], h => by simp [SV.rnL, Bd] at h
 | x :: l, h => by
   simp only [SV.rnL, Bd, List.mem_append] at *;exact h.imp (A72 hπ) (Oa hπ)
end
theorem A1c (hπ : ∀ n, π (π n) = n) (F : Fr) (w : World) (ρ : Nat → Value) (s : FS) : vw F w (fun n => ρ (π n)) (s.rn π) = vw F w ρ s := by
 show Az w _ = Az w _;congr 1;funext b;refine propext (or_congr_left ⟨?_, ?_⟩)
 · rintro ⟨n, x, h1, h2⟩;obtain ⟨y, h3, _⟩ := Option.map_eq_some_iff.1 h1;exact ⟨π n, y, h3, h2⟩
 · rintro ⟨n, x, h1, h2⟩;exact ⟨π n, x.rn π, by simp only [FS.rn, hπ, h1]; rfl, by simpa only [hπ] using h2⟩
theorem FunOk.rn (hπ : ∀ n, π (π n) = n) {f : Nat} {args : List SV} {h : Nat → Option Blk} {d d' : Nat} {x : SV} {u : List HU} (hf : FunOk P f args h d x u) :
 FunOk P f (SV.rnL π args) (fun n => (h (π n)).map (Blk.rn π)) d' (x.rn π) (u.map (HU.rn π)) := by
 refine ⟨hf.1, fun F N ρ s a w hR hh vs hc => ?_⟩;have hR' := hR.rn hπ;have hc' : ConcL (vw F w (fun n => ρ (π n)) (s.rn π)) (fun n => ρ (π n)) args vs := by
  rw [A1c hπ];have := hc.rn hπ
  rwa [Lv hπ] at this
 refine Calls.mono (hf.2 F N _ _ a w hR' (fun n hn => ?_) vs hc') fun e w' he => ?_
 · have hm : π n ∈ Bd (SV.rnL π args) := by
    have := Oa hπ (k := π n) (l := SV.rnL π args);rw [Lv hπ, hπ] at this;refine Classical.byContradiction fun hno => ?_;have key : ∀ (l : List SV) (k : Nat), k ∈ Bd l → π k ∈ Bd (SV.rnL π l) := fun l k hk => by
     have := Oa hπ (k := π (π k)) (l := SV.rnL π l);rw [Lv hπ, hπ] at this;exact this hk
    exact hno (key args n hn)
   have := hh (π n) hm;simp only [FS.rn];rw [this];simp only [hπ];cases h n with
   | none => rfl
   | some b => simp only [Option.map_some, Alv hπ]
 · obtain ⟨v, ρ', rfl, h1, h2⟩ := he;have h1' := h1.rn hπ;have e : ((s.rn π).hup u).rn π = s.hup (u.map (HU.rn π)) := by
    rw [S7 hπ];congr 1;refine FS.ext' (fun k => Aq7 hπ _) (fun k => ?_);simp only [FS.rn, hπ, Option.map_map];cases s.h k with
    | none => rfl
    | some b => simp only [Option.map_some, Function.comp, Alv hπ]
   rw [e] at h1';refine ⟨v, _, rfl, h1', ?_⟩;have h2' := h2.rn hπ;have ev := A1c hπ F w' ρ' ((s.rn π).hup u);rw [e] at ev;rw [ev];exact h2'
theorem FunOk.at {f : Nat} {args : List SV} {h h' : Nat → Option Blk} {d : Nat} {x : SV} {u : List HU} (hf : FunOk P f args h d x u) (hh : ∀ n ∈ Bd args, h' n = h n) : FunOk P f args h' d x u :=
 ⟨hf.1, fun F N ρ s a w hR hs vs hc => hf.2 F N ρ s a w hR (fun n hn => (hs n hn).trans (hh n hn)) vs hc⟩
def sw1 (a m : Nat) (k : Nat) : Nat := if k = a then m else if k = m then a else k
theorem Uu (a m : Nat) (k : Nat) : sw1 a m (sw1 a m k) = k := by unfold sw1; split <;> (try split) <;> (try split) <;> omega
end Go.Proofs.YtannaphhhkncoaaGreat.Fw
namespace Go.Proofs.YtannaphhhkncoaaGreat.Fw
open Go.RowKit
abbrev iM (d n : Nat) : I := ⟨.mv, [.t n], some d, none⟩
abbrev iJ (k : Kd) (x : List Opd) (d : Nat) : I := ⟨k, x, some d, none⟩
abbrev iO (k : Kd) (x : List Opd) : I := ⟨k, x, none, none⟩
abbrev iG (k : Kd) (x : List Opd) (d g : Nat) (w : Bool) : I := ⟨k, x, some d, some (g, w)⟩
abbrev cI (n : Int) : Opd := .c (.pv (.i .i64 n))
section
variable (E : Env)
def Xs (D ps : List Nat) (c j : Nat) (d : Option Nat) (T : List Nat) (acc : List (Nat × List Nat)) (l : List (I × Nat × List Nat × List Nat × Nat)) (Q : Ch) (s : FS) : KK :=
 fun x u => okP D c (d.getD 1000000000) x u T ∧ Yr acc ps T ∧ sxP E l (Ac7 c j T acc) Q (s.apply d x u)
def gdP (D ps : List Nat) (c j : Nat) (k : Kd) (x : List Opd) (d : Nat) (T : List Nat) (acc : List (Nat × List Nat)) (l : List (I × Nat × List Nat × List Nat × Nat)) (Q : Ch) (s : FS) : Prop := body E k x d s (Xs E D ps c j (some d) T acc l Q s)
def skP (D ps : List Nat) (c j : Nat) (d : Nat) (T : List Nat) (acc : List (Nat × List Nat)) (l : List (I × Nat × List Nat × List Nat × Nat)) (Q : Ch) (s : FS) : Prop := Xs E D ps c j (some d) T acc l Q s (.tup []) []
theorem Awu (D l Q s) : sx E (.anyP D l) Q s = Avd E.reg D l Q s := (rfl)
theorem Aup (D ps c j d T acc l Q s x u) : Xs E D ps c j d T acc l Q s x u = (okP D c (d.getD 1000000000) x u T ∧ Yr acc ps T ∧ sxP E l (Ac7 c j T acc) Q (s.apply d x u)) := (rfl)
theorem Aww (acc Q s) : sxP E [] acc Q s = Q .normal s := (rfl)
theorem Aqb (k x d c D ps j l acc Q s) : sxP E ((⟨k, x, some d, none⟩, c, D, ps, j) :: l) acc Q s = body E k x d s (Xs E D ps c j (some d) (d :: Km (Bu s x)) acc l Q s) := (rfl)
theorem Al6 (k x c D ps j l acc Q s) : sxP E ((⟨k, x, none, none⟩, c, D, ps, j) :: l) acc Q s = body E k x 0 s (Xs E D ps c j none (Km (Bu s x)) acc l Q s) := (rfl)
theorem Af (D ps c j k x d T acc l Q s) : gdP E D ps c j k x d T acc l Q s = body E k x d s (Xs E D ps c j (some d) T acc l Q s) := (rfl)
theorem Ae (D ps c j d T acc l Q s) : skP E D ps c j d T acc l Q s = Xs E D ps c j (some d) T acc l Q s (.tup []) [] := (rfl)
variable {E}
theorem R4 {D l Q s} (h : sxP E l [] Q (killD D s)) : Avd E D l Q s := ⟨s, .refl s, h⟩
end
theorem A8n (D d x u T) : okP D 0 d x u T = (noD d x D ∧ u = []) := (rfl)
theorem A8m (D d x u T) : okP D 1 d x u T = (noD d x D ∧ Hf D d u) := (rfl)
theorem A8l (D d x u T) : okP D 2 d x u T = (noD d x D ∧ Ee D d u ∧ Hb T u) := (rfl)
theorem Ahd (T) : Hb T [] = True := (rfl)
theorem Ahc (T n b u) : Hb T (.upd n b :: u) = (inT n T ∧ Hb T u) := (rfl)
theorem Atc (n m T) : inT n (m :: T) = if n = m then True else inT n T := (rfl)
theorem Arl (n) : Yu n [] = True := (rfl)
theorem Amr (n m T) : Yu n (m :: T) = if n = m then False else Yu n T := (rfl)
theorem Aou (T) : Rx [] T = True := (rfl)
theorem Ai5 (n S T) : Rx (n :: S) T = (Yu n T ∧ Rx S T) := (rfl)
theorem Aq4 (acc T) : Yr acc [] T = True := (rfl)
theorem Amj (acc k ps T) : Yr acc (k :: ps) T = (Rx (lk [] k acc) T ∧ Yr acc ps T) := (rfl)
theorem A7e (k T acc) : Ac7 0 k T acc = acc := (rfl)
theorem A7d (k T acc) : Ac7 1 k T acc = (k, T) :: acc := (rfl)
theorem A7c (k T acc) : Ac7 2 k T acc = (k, T) :: acc := (rfl)
theorem Al5 : Km [] = [] := (rfl)
theorem Ahe (x l) : Km (x :: l) = tnP x ++ Km l := (rfl)
theorem A74 (n o) : tnP (.p n o) = [n] := (rfl)
theorem A2a (n z i o) : tnP (.pr n z i o) = [n] := (rfl)
theorem A2c (n) : tnP (.os n) = [n] := (rfl)
theorem A19 (x) : tnP (.pv x) = [] := (rfl)
theorem Awm (n x) : tnP (.vec n x) = [] := (rfl)
theorem A2b (a b c d) : tnP (.pi a b c d) = [] := (rfl)
attribute [go_sem] Awu Aup Aww Aqb Al6 A8n A8m A8l Ahd Ahc Atc Arl Amr Aou Ai5 Aq4 Amj A7e A7d A7c Al5 Ahe A74 A2a A2c A19 Awm A2b
abbrev iU (k : Kd) (n d : Nat) : I := ⟨k, [.t n], some d, none⟩
abbrev iD (k : Kd) (m n d : Nat) : I := ⟨k, [.t m, .t n], some d, none⟩
abbrev iV (k : Kd) (n d g : Nat) (w : Bool) : I := ⟨k, [.t n], some d, some (g, w)⟩
abbrev L1 : Kd := .ld 1 false
abbrev L2 : Kd := .ld 2 true
abbrev L8 : Kd := .ld 8 true
abbrev B1 : Kd := .bin .eql
abbrev B2 : Kd := .bin .add
abbrev B3 : Kd := .bin .lss
abbrev B4 : Kd := .bin .gtr
abbrev B5 : Kd := .bin .sub
abbrev B6 : Kd := .bin .neq
abbrev B7 : Kd := .bin .leq
abbrev B8 : Kd := .bin .geq
abbrev U1 : Kd := .un .not
abbrev S1 : Kd := .sto 1
abbrev zV : SV := .vec 8 (List.replicate 8 (.i .u32 0))
abbrev zW : SV := .vec 8 (List.replicate 8 (.i .i64 0))
abbrev zX : SV := .vec 8 (List.replicate 8 (.b false))
abbrev zN : SV := .pv (.sl true 0 [])
abbrev zI : SV := .pv (.i .i64 0)
abbrev zU : SV := .pv (.i .u32 0)
abbrev zF : SV := .pv (.b false)
abbrev zS : SV := .pv (.s [])
abbrev zT : SV := .pv (.b true)
abbrev jP (a b d : Nat) : I := ⟨.pick, [.t a, .c zT, .t b], some d, none⟩
abbrev jQ (a b d : Nat) : I := ⟨.pick, [.t a, .t b, .c zF], some d, none⟩
abbrev jC (n : Int) (d : Nat) : I := ⟨.mv, [cI n], some d, none⟩
abbrev jW (z a b : Nat) : I := ⟨.sto z, [.t a, .t b], none, none⟩
abbrev jF (o n d : Nat) : I := ⟨.fa o, [.t n], some d, none⟩
abbrev jK (k : Kd) (a : Nat) (n : Int) (d : Nat) : I := ⟨k, [.t a, cI n], some d, none⟩
abbrev jA (k : Kd) (n d g : Nat) : I := ⟨k, [.t n], some d, some (g, true)⟩
abbrev jB (k : Kd) (n d g : Nat) : I := ⟨k, [.t n], some d, some (g, false)⟩
abbrev jE (d : Nat) : I := ⟨.new (.agg [zI, zU, zV, zI, zI, zU, zI, zU, zS, zN, zN, zI, zS, zI]), [], some d, none⟩
abbrev jL (o n d g : Nat) : I := ⟨.fa o, [.t n], some d, some (g, true)⟩
abbrev jN (o n d g : Nat) : I := ⟨.fa o, [.t n], some d, some (g, false)⟩
abbrev jS (l : List I) (c : C) : C := .seq (.ops l) c
abbrev jI (n : Nat) (a : C) : C := .ite (.t n) a .skip
attribute [go_sem] L1 L2 L8 B1 B2 B3 B4 B5 B6 B7 B8 U1 S1 zV zW zX zN zI zU zF zS zT
end Go.Proofs.YtannaphhhkncoaaGreat.Fw
namespace Go.Proofs.YtannaphhhkncoaaGreat.Fw
open Go.RowKit
variable {P : Program} {F : Fr} {N : Nat} {ρ ρ' : Nat → Value} {s : FS} {a : Act} {w w' : World} {V V' : View}
def Blk.ptr (n : Nat) : Blk → SV
 | .var _ => .p n 0
 | .row _ _ => .os n
 | _ => .dead
def Blk.plain : Blk → Bool
 | .var x => x.closed
 | .row _ _ => true
 | _ => false
theorem Own.closed {n m : Nat} {blk : Blk} (hb : blk.plain = true) (hV : V.le V') (he : ρ n = ρ' m) (h : Own w V ρ' m blk) : Own w V' ρ n blk := by
 cases blk with
 | var x =>
   obtain ⟨b, vs, ty, fr, u, g1, g2, g3, g4, g5, g6, g7⟩ := h;exact ⟨b, vs, ty, fr, u, he.trans g1, g2, g3, Bz hV hb g4, g5, g6, g7⟩
 | row sz es =>
   obtain ⟨base, cap, g1, g2, g3, g4, g5⟩ := h;refine ⟨base, cap, he.trans g1, g2, g3, g4, fun hc => ?_⟩;obtain ⟨b, vs, ty, fr, k1, k2, k3, k4, k5, k6⟩ := g5 hc;exact ⟨b, vs, ty, fr, k1, k2, k3, k4, k5, fun i c hi => (k6 i c hi).mono hV⟩
 | rowc sz es c => cases hb
 | it l p => cases hb
theorem Akm {n : Nat} {blk : Blk} (hb : (blk.ptr n).kill n ≠ blk.ptr n) (h : Own w V ρ n blk) : Conc V ρ (blk.ptr n) (ρ n) := by
 cases blk with
 | var x =>
   obtain ⟨b, vs, ty, fr, u, g1, _⟩ := h;simp only [Blk.ptr, Conc];exact ⟨b, g1, g1⟩
 | row sz es =>
   obtain ⟨base, cap, g1, _⟩ := h;simp only [Blk.ptr, Conc];exact ⟨trivial, by rw [g1]; trivial⟩
 | rowc sz es c => simp only [Blk.ptr, SV.kill] at hb; exact absurd rfl hb
 | it l p => simp only [Blk.ptr, SV.kill] at hb; exact absurd rfl hb
theorem Arj {n m : Nat} {b b' : Blk} {v : Value} (hp : b'.ptr m = b.ptr m) (hb : (b.ptr n).kill n ≠ b.ptr n) (h : Conc V ρ (b.ptr n) v) (h' : Conc V' ρ' (b'.ptr m) v) : ρ n = ρ' m := by
 rw [hp] at h';cases b with
 | var x =>
   simp only [Blk.ptr, Conc] at h h';obtain ⟨p, e1, e2⟩ := h;obtain ⟨q, e3, e4⟩ := h';rw [e1, e3, ← e2, ← e4]
 | row sz es =>
   simp only [Blk.ptr, Conc] at h h';rw [← h.1, ← h'.1]
 | rowc sz es c => simp only [Blk.ptr, SV.kill] at hb; exact absurd rfl hb
 | it l p => simp only [Blk.ptr, SV.kill] at hb; exact absurd rfl hb
theorem Ro (hm : P.follows .mixedOrders = true) {f N' : Nat} {rs : List Rv} {c : C} (hf : Bf P f = some (N', rs, c)) {args : List SV} {h : Nat → Option Blk} {d g : Nat} {blk blk' : Blk} {x : SV} (hlen : args.length ≤ N')
 (hts : ∀ n ∈ Bd args, n = g) (hgt : g ∈ Bd args) (hg : h g = some blk) (hx : x.closed = true) (hp : (blk.ptr g).kill g ≠ blk.ptr g) (hb' : blk'.plain = true) (hpp : ∀ m, blk'.ptr m = blk.ptr m)
 (hrun : ∀ F, sx (Z6 P F N') c (Yh rs fun y s => y = x ∧ ∃ m, s.t 1000000 = blk'.ptr m ∧ s.h m = some blk') (mk (C4 0 args ++ [(1000000, blk.ptr g)]) [(g, some blk)])) :
 FunOk P f args h d x [.upd g blk'] := by
 refine ⟨Cj hf, fun F N ρ s a w hR hh vs hc => ?_⟩;have hsg : s.h g = some blk := (hh g hgt).trans hg;have hvl : vs.length = args.length := by
  clear hrun hlen hts hh hgt
  induction args generalizing vs with
  | nil => simp only [ConcL] at hc; subst hc; rfl
  | cons x l ih =>
    simp only [ConcL] at hc;obtain ⟨v, us, rfl, _, h⟩ := hc;simp [ih _ h]
 let F' : Fr := ⟨w, A4p ρ s.h [g], F.out ρ (C1 s [g]).h, fun _ => ρ g, []⟩
 have hmine : ∀ b, A4p ρ s.h [g] b ↔ Cs (ρ g) = some b := fun b => by
  constructor
  · rintro ⟨n, hn, x, h1, h2⟩;simp only [List.mem_singleton] at hn; subst hn; exact h2
  · intro hb; exact ⟨g, List.mem_singleton.2 rfl, blk, hsg, hb⟩
 have hlk : ∀ n, lk none n [(g, some blk)] = if n = g then some blk else none := fun n => by simp only [lk]
 have how : ∀ b, Ck ρ (mk (C4 0 args ++ [(1000000, blk.ptr g)]) [(g, some blk)]).h b ↔ A4p ρ s.h [g] b := fun b => by
  rw [hmine];constructor
  · rintro ⟨n, x, h1, h2⟩;simp only [mk, hlk] at h1;split at h1
    · rename_i e; subst e; exact h2
    · cases h1
  · intro hb; exact ⟨g, blk, by simp [mk, lk], hb⟩
 have hoth : ∀ b, Ck ρ (C1 s [g]).h b ↔ ∃ n, n ≠ g ∧ ∃ x, s.h n = some x ∧ Cs (ρ n) = some b := fun b => by
  constructor
  · rintro ⟨n, x, h1, h2⟩;simp only [C1, List.mem_singleton] at h1; split at h1
    · cases h1
    · rename_i hn; exact ⟨n, hn, x, h1, h2⟩
  · rintro ⟨n, hn, x, h1, h2⟩;exact ⟨n, x, by simp only [C1, List.mem_singleton, if_neg hn]; exact h1, h2⟩
 have hview : Az w (F'.out ρ (mk (C4 0 args ++ [(1000000, blk.ptr g)]) [(g, some blk)]).h) = vw F w ρ s := by
  show Az w _ = Az w _;congr 1;funext b;refine propext ⟨fun hb => ?_, fun hb => ?_⟩
  · rcases hb with hb | hb
    · obtain ⟨n, _, x, h1, h2⟩ := (how b).1 hb; exact .inl ⟨n, x, h1, h2⟩
    · rcases hb with hb | hb
      · obtain ⟨n, _, x, h1, h2⟩ := (hoth b).1 hb; exact .inl ⟨n, x, h1, h2⟩
      · exact .inr hb
  · rcases hb with ⟨n, x, h1, h2⟩ | hb
    · by_cases hn : n = g
      · subst hn; exact .inl ((how b).2 ((hmine b).2 h2))
      · exact .inr (.inl ((hoth b).2 ⟨n, hn, x, h1, h2⟩))
    · exact .inr (.inr hb)
 have hgl : ∀ (k : Nat) (l : List SV) (n : Nat) (t : List (Nat × SV)), (∀ i, k ≤ i → i < k + l.length → i ≠ n) → lk .dead n (C4 k l ++ t) = lk .dead n t := by
  intro k l
  induction l generalizing k with
  | nil => intro n t _; rfl
  | cons y l ih =>
    intro n t hn;simp only [C4, List.cons_append, lk];rw [if_neg fun e => hn k (Nat.le_refl k) (by simp) e.symm];exact ih (k + 1) n t fun i h1 h2 => hn i (by omega) (by simp only [List.length_cons]; omega)
 have hap : ∀ (k : Nat) (l : List SV) (n : Nat) (t : List (Nat × SV)), k ≤ n → n < k + l.length → lk .dead n (C4 k l ++ t) = lk .dead n (C4 k l) := by
  intro k l
  induction l generalizing k with
  | nil => intro n t h1 h2; simp at h2; omega
  | cons y l ih =>
    intro n t h1 h2;simp only [C4, List.cons_append, lk];split
    · rfl
    · exact ih (k + 1) n t (by omega) (by simp only [List.length_cons] at h2; omega)
 have hN := Rs hf;have hR0 : RelR F' N' ρ (mk (C4 0 args ++ [(1000000, blk.ptr g)]) [(g, some blk)]) { tmps := (⟨vs⟩ : Array Value) ++ Array.replicate (N' - (⟨vs⟩ : Array Value).size) undef, defers := [] } w := by
  refine ⟨⟨rfl, rfl, rfl, Nat.le_refl _, fun _ _ _ => rfl, fun b hb => ⟨?_, fun hmi => ?_⟩, ⟨hR.tabW, fun p hp hmi => hR.tabN hp ⟨g, blk, hsg, (hmine p.1).1 hmi⟩⟩⟩, fun b hb => .inr ((how b).1 hb), fun n x hx => ?_, fun n m x y b hx hy hbx hby => ?_, fun n => ?_, by simp; omega, rfl⟩
  · rcases hb with hb | hb
    · obtain ⟨n, _, x, h1, h2⟩ := (hoth b).1 hb; exact (hR.own n x h1).lt h2
    · exact Nat.lt_of_lt_of_le (hR.fr.hid b hb).1 hR.fr.size
  · have hmb := (hmine b).1 hmi;rcases hb with hb | hb
    · obtain ⟨m, hm, y, g1, g2⟩ := (hoth b).1 hb;exact hm (hR.inj m g y blk b g1 hsg g2 hmb)
    · exact hR.shown ⟨g, blk, hsg, hmb⟩ hb
  · rw [hview];simp only [mk, hlk] at hx; split at hx
    · rename_i e; subst e; cases hx; exact hR.own _ _ hsg
    · cases hx
  · simp only [mk, hlk] at hx hy;split at hx
    · split at hy
      · rename_i e1 e2; rw [e1, e2]
      · cases hy
    · cases hx
  · rw [hview];simp only [mk];unfold Fr.val;by_cases hb : n < Eo
    · rw [if_pos hb];have he : ((⟨vs⟩ : Array Value) ++ Array.replicate (N' - (⟨vs⟩ : Array Value).size) undef).getD n undef = (vs[n]?).getD undef := by
       rw [Array.getD_eq_getD_getElem?];by_cases hn : n < vs.length
       · rw [Array.getElem?_append_left (by simpa using hn)]; simp
       · rw [Array.getElem?_append_right (by simpa using hn)];rw [List.getElem?_eq_none (by omega)];simp only [Array.getElem?_replicate, Option.getD_none];split <;> rfl
      rw [he];have := Hq 0 n hc;simp only [Nat.zero_le, if_true, Nat.sub_zero] at this;by_cases hn : n < args.length
      · rw [hap 0 args n _ (Nat.zero_le n) (by omega)]; exact this
      · rw [hgl 0 args n _ fun i h1 h2 => by omega];have : n ≠ 1000000 := fun e => by rw [e] at hb; exact Nat.lt_irrefl _ hb
        simp only [lk, if_neg this, Conc]
    · rw [if_neg hb, hgl 0 args n _ fun i h1 h2 => by omega];simp only [lk];split
      · exact Akm hp (hR.own g blk hsg)
      · simp only [Conc]
 refine Calls.mono (Qf hm hf rfl hR0.fr (fun b hb => by
  obtain ⟨n, hn, x, h1, h2⟩ := hb;exact (hR.own n x h1).lt h2) hR0 Wh (hrun F')) fun e w' he => ?_
 obtain ⟨v, ρ', s', a', y, rfl, hR', hy, hyx, m, ht, hm'⟩ := he;subst hyx;have hadr : ρ g = ρ' m := by
  have h1 := hR'.tmps 1000000;rw [ht] at h1;have e : F'.val a' 1000000 = ρ g := by
   unfold Fr.val;rw [if_neg (show ¬ (1000000 : Nat) < Eo from Nat.lt_irrefl _)]
  rw [e] at h1;exact Arj (hpp m) hp (Akm hp (hR.own g blk hsg)) h1
 have hout2 : ∀ b, F.out ρ (s.hup [.upd g blk']).h b → F'.out ρ' s'.h b := fun b hb => by
  rcases hb with ⟨n, z, h1, h2⟩ | hb
  · by_cases hn : n = g
    · subst hn;exact .inl ⟨m, blk', hm', by rw [← hadr]; exact h2⟩
    · have h1' : s.h n = some z := by simpa [FS.hup, FS.seth, hn] using h1
      exact .inr (.inl ((hoth b).2 ⟨n, hn, z, h1', h2⟩))
  · exact .inr (.inr hb)
 have hV2 : (Az w' (F'.out ρ' s'.h)).le (Az w' (F.out ρ (s.hup [.upd g blk']).h)) := Bi fun b c ho hc => ⟨fun hb => ho (hout2 b hb), hc⟩
 have hout1 : ∀ b, F.out ρ (s.hup [.upd g blk']).h b ↔ F.out ρ s.h b := fun b => by
  refine or_congr_left ⟨?_, ?_⟩
  · rintro ⟨n, z, h1, h2⟩;by_cases hn : n = g
    · subst hn; exact ⟨n, blk, hsg, h2⟩
    · exact ⟨n, z, by simpa [FS.hup, FS.seth, hn] using h1, h2⟩
  · rintro ⟨n, z, h1, h2⟩;by_cases hn : n = g
    · subst hn; exact ⟨n, blk', by simp [FS.hup, FS.seth], h2⟩
    · exact ⟨n, z, by simpa [FS.hup, FS.seth, hn] using h1, h2⟩
 have hkeep : ∀ b, b < w.heap.size → Cs (ρ g) ≠ some b → w'.heap[b]? = w.heap[b]? := fun b hb hn => hR'.fr.block b hb fun hmi => hn ((hmine b).1 hmi);have hV1 : (vw F w ρ s).le (Az w' (F.out ρ (s.hup [.upd g blk']).h)) := Bi fun b c ho hc => by
  refine ⟨fun hb => ho ((hout1 b).1 hb), ?_⟩;have hlt : b < w.heap.size := by
   unfold Dd at hc;cases hx : w.heap[b]? with
   | none => rw [hx] at hc; cases hc
   | some o => exact (Array.getElem?_eq_some_iff.1 hx).1
  rw [C3 (hkeep b hlt fun e => ho (.inl ⟨g, blk, hsg, e⟩))];exact hc
 refine ⟨v, ρ, rfl, ⟨⟨hR'.fr.os.trans hR.fr.os, hR'.fr.tape.trans hR.fr.tape, hR'.fr.output.trans hR.fr.output, Nat.le_trans hR.fr.size hR'.fr.size, fun b hlt hM => ?_, hR.fr.hid, hR.fr.tab⟩, fun b hb => ?_, fun n z hz => ?_, fun n k z z' b hn hk hbn hbk => ?_, fun n => (hR.tmps n).mono hV1, hR.size, hR.defers⟩, Bz hV2 hx hy⟩
 · rw [hkeep b (Nat.lt_of_lt_of_le hlt hR.fr.size) fun e => ?_]
   · exact hR.fr.block b hlt hM
   · rcases hR.may b ⟨g, blk, hsg, e⟩ with h1 | h1
     · omega
     · exact hM h1
 · obtain ⟨n, z, h1, h2⟩ := hb;by_cases hn : n = g
   · subst hn; exact hR.may b ⟨n, blk, hsg, h2⟩
   · exact hR.may b ⟨n, z, by simpa [FS.hup, FS.seth, hn] using h1, h2⟩
 · by_cases hn : n = g
   · subst hn;have e : z = blk' := by simpa [FS.hup, FS.seth] using hz.symm
     subst e;exact Own.closed hb' hV2 hadr (hR'.own m _ hm')
   · have h1 : s.h n = some z := by simpa [FS.hup, FS.seth, hn] using hz
     refine (hR.own n z h1).congr hV1 fun b hb => hkeep b ((hR.own n z h1).lt hb) fun e => hn (hR.inj n g z blk b h1 hsg hb e)
 · have f : ∀ (q : Nat) (y : Blk), (s.hup [.upd g blk']).h q = some y → ∃ y', s.h q = some y' := fun q y hq => by
    by_cases e : q = g
    · subst e; exact ⟨blk, hsg⟩
    · exact ⟨y, by simpa [FS.hup, FS.seth, e] using hq⟩
   obtain ⟨z1, e1⟩ := f n z hn;obtain ⟨z2, e2⟩ := f k z' hk;exact hR.inj n k z1 z2 b e1 e2 hbn hbk
end Go.Proofs.YtannaphhhkncoaaGreat.Fw
namespace Go.Proofs.YtannaphhhkncoaaGreat.Fw
open Go.RowKit
variable {P : Program}
end Go.Proofs.YtannaphhhkncoaaGreat.Fw
namespace Go.Proofs.YtannaphhhkncoaaGreat.Fw
open Go.RowKit
variable {P : Program} {F : Fr} {N : Nat} {ρ ρ' : Nat → Value} {s : FS} {a : Act} {w w' : World} {V V' : View}
mutual
theorem Conc.agree (hV : V.le V') : ∀ {x : SV} {v : Value}, (∀ n ∈ tn x, ρ' n = ρ n) → Conc V ρ x v → Conc V' ρ' x v
 | .pv x, v, _, h => by simp only [Conc] at *; exact h.mono hV
 | .vec n cs, v, _, h => by simp only [Conc] at *; obtain ⟨vs, a, b, c⟩ := h; exact ⟨vs, a, b, c.mono hV⟩
 | .agg l, v, hc, h => by simp only [Conc, tn] at *; obtain ⟨vs, a, b⟩ := h; exact ⟨vs, a, Cells.agree hV hc b⟩
 | .tup l, v, hc, h => by simp only [Conc, tn] at *; obtain ⟨vs, a, b⟩ := h; exact ⟨vs, a, ConcL.agree hV hc b⟩
 | .p n off, v, hc, h => by simp only [Conc, tn, List.mem_singleton, forall_eq] at *; rw [hc]; exact h
 | .ps n off, v, hc, h => by simp only [Conc, tn, List.mem_singleton, forall_eq] at *; rw [hc]; exact h
 | .pr n sz i off, v, hc, h => by simp only [Conc, tn, List.mem_singleton, forall_eq] at *; rw [hc]; exact h
 | .pi sz es i off, v, _, h => by
   simp only [Conc] at *;obtain ⟨b, o, arr, h1, h2, h3⟩ := h;exact ⟨b, o, arr, h1, hV _ _ h2, fun c hc => ⟨(h3 c hc).1, (h3 c hc).2.mono hV⟩⟩
 | .os n, v, hc, h => by simp only [Conc, tn, List.mem_singleton, forall_eq] at *; rw [hc]; exact h
 | .ov n sz lo hi, v, hc, h => by simp only [Conc, tn, List.mem_singleton, forall_eq] at *; rw [hc]; exact h
 | .fn f cap, v, hc, h => by simp only [Conc, tn] at *; obtain ⟨vs, a, b⟩ := h; exact ⟨vs, a, ConcL.agree hV hc b⟩
 | .dead, v, _, h => by simp only [Conc]
theorem ConcL.agree (hV : V.le V') : ∀ {l : List SV} {vs : List Value}, (∀ n ∈ Bd l, ρ' n = ρ n) → ConcL V ρ l vs → ConcL V' ρ' l vs
 | [], vs, _, h => by simp only [ConcL] at *; exact h
 | x :: l, vs, hc, h => by
   simp only [ConcL, Bd, List.mem_append] at *;obtain ⟨u, us, a, b, c⟩ := h;exact ⟨u, us, a, Conc.agree hV (fun n hn => hc n (.inl hn)) b, ConcL.agree hV (fun n hn => hc n (.inr hn)) c⟩
theorem Cells.agree (hV : V.le V') : ∀ {l : List SV} {vs : List Value}, (∀ n ∈ Bd l, ρ' n = ρ n) → Cells V ρ l vs → Cells V' ρ' l vs
 | [], vs, _, h => by simp only [Cells] at *; exact h
 | x :: l, vs, hc, h => by
   simp only [Cells, Bd, List.mem_append] at *;obtain ⟨u, us, a, b, c, d, e⟩ := h;exact ⟨u, us, a, Conc.agree hV (fun n hn => hc n (.inl hn)) b, c, d, Cells.agree hV (fun n hn => hc n (.inr hn)) e⟩
end
theorem Tj (t : List (Nat × SV)) (n : Nat) : ∀ (k : Nat) (l : List SV), (∀ i, k ≤ i → i < k + l.length → i ≠ n) → lk .dead n (C4 k l ++ t) = lk .dead n t
 | _, [], _ => rfl
 | k, y :: l, hn => by
   simp only [C4, List.cons_append, lk];rw [if_neg fun e => hn k (Nat.le_refl k) (by simp) e.symm];exact Tj t n (k + 1) l fun i h1 h2 => hn i (by omega) (by simp only [List.length_cons]; omega)
theorem Aah (t : List (Nat × SV)) (n : Nat) : ∀ (k : Nat) (l : List SV), k ≤ n → n < k + l.length → lk .dead n (C4 k l ++ t) = lk .dead n (C4 k l)
 | k, [], h1, h2 => by simp at h2; omega
 | k, y :: l, h1, h2 => by
   simp only [C4, List.cons_append, lk];split
   · rfl
   · exact Aah t n (k + 1) l (by omega) (by simp only [List.length_cons] at h2; omega)
theorem Uf : ∀ {a b : List SV} {vs : List Value}, Cells V ρ (a ++ b) vs → ∃ va vb, vs = va ++ vb ∧ Cells V ρ a va ∧ Cells V ρ b vb
 | [], b, vs, h => ⟨[], vs, rfl, by simp only [Cells], h⟩
 | x :: a, b, vs, h => by
   simp only [List.cons_append, Cells] at h;obtain ⟨u, us, rfl, h1, h2, h3, h4⟩ := h;obtain ⟨va, vb, rfl, h5, h6⟩ := Uf h4;exact ⟨Ay u ++ va, vb, by rw [List.append_assoc], by simp only [Cells]; exact ⟨u, va, rfl, h1, h2, h3, h5⟩, h6⟩
theorem Xv : ∀ {a b : List SV} {va vb : List Value}, Cells V ρ a va → Cells V ρ b vb → Cells V ρ (a ++ b) (va ++ vb)
 | [], b, va, vb, h, k => by simp only [Cells] at h; subst h; exact k
 | x :: a, b, va, vb, h, k => by
   simp only [Cells] at h;obtain ⟨u, us, rfl, h1, h2, h3, h4⟩ := h;simp only [List.cons_append, Cells];exact ⟨u, us ++ vb, by rw [List.append_assoc], h1, h2, h3, Xv h4 k⟩
end Go.Proofs.YtannaphhhkncoaaGreat.Fw
namespace Go.Proofs.YtannaphhhkncoaaGreat.Fw
open Go.RowKit
abbrev M9 := Option (SV × List HU)
def pvB : PV → PV → Option Bool
 | .i k a, .i k' b => if k = k' then some (decide (a = b)) else none
 | .b x, .b y => some (x == y)
 | .s l, .s m => some (decide (l = m))
 | _, _ => none
def Arh : List PV → List PV → Option Bool
 | [], [] => some true
 | x :: l, y :: m => match pvB x y, Arh l m with
   | some a, some b => some (a && b)
   | _, _ => none
 | _, _ => none
def gd (p : Prop) [Decidable p] (r : M9) : M9 := if p then r else none
def W7 (c : Option (List PV)) (off size : Nat) (ag : Bool) : M9 := match c with
 | some cs => gd (off + size ≤ cs.length ∧ (ag = true ∨ size = 1)) (some (G5 cs off size ag, []))
 | none => none
def unE : List (List PV) → Option (List UInt8)
 | [] => some []
 | [.i .u8 n] :: l => if 0 ≤ n ∧ n < 256 then (unE l).map (UInt8.ofNat n.toNat :: ·) else none
 | _ => none
def I5 (x : PV) : M9 := some (.pv x, [])
def Au2 (op : BinOp) (k k' : IntKind) (a b : Int) : M9 :=
 match op with
 | .add => gd (k = k') (I5 (.i k (k.wrap (a + b))))
 | .sub => gd (k = k') (I5 (.i k (k.wrap (a - b))))
 | .mul => gd (k = k') (I5 (.i k (k.wrap (a * b))))
 | .quo => gd (k = k' ∧ b ≠ 0) (I5 (.i k (k.wrap (a.tdiv b))))
 | .rem => gd (k = k' ∧ b ≠ 0) (I5 (.i k (a.tmod b)))
 | .shl => gd (0 ≤ b) (I5 (.i k (k.wrap (a * 2 ^ (min b.toNat k.bits)))))
 | .shr => gd (0 ≤ b) (I5 (.i k (a.fdiv (2 ^ (min b.toNat k.bits)))))
 | .and => gd (k = k') (I5 (.i k (bits .and k a b)))
 | .or => gd (k = k') (I5 (.i k (bits .or k a b)))
 | .xor => gd (k = k') (I5 (.i k (bits .xor k a b)))
 | .andNot => gd (k = k') (I5 (.i k (bits .andNot k a b)))
 | .eql => gd (k = k') (I5 (.b (decide (a = b))))
 | .neq => gd (k = k') (I5 (.b (!decide (a = b))))
 | .lss => gd (k = k') (I5 (.b (decide (a < b))))
 | .leq => gd (k = k') (I5 (.b (decide (a ≤ b))))
 | .gtr => gd (k = k') (I5 (.b (decide (b < a))))
 | .geq => gd (k = k') (I5 (.b (decide (b ≤ a))))
def Au0 (op : BinOp) (a b : List UInt8) : M9 :=
 match op with
 | .add => gd (a.length + b.length ≤ 9223372036854775807) (I5 (.s (a ++ b)))
 | .eql => I5 (.b (decide (a = b)))
 | .neq => I5 (.b (!decide (a = b)))
 | .lss => I5 (.b (Op.bytesLess a b))
 | .leq => I5 (.b (Op.bytesLess a b || decide (a = b)))
 | .gtr => I5 (.b (!(Op.bytesLess a b || decide (a = b))))
 | .geq => I5 (.b (!Op.bytesLess a b))
 | _ => none
def Ab7 (x : SV) (off size : Nat) (ag : Bool) : M9 := match (cut x.segs off size).bind (Wz ag) with
 | some v => some (v, [])
 | none => W7 x.cells? off size ag
def ldC (h : Nat → Option Blk) (size : Nat) (ag : Bool) : SV → M9
 | .p n off => match h n with
   | some (.var x) => Ab7 x off size ag
   | _ => none
 | .ps n e => match h n with
   | some (.var x) => W7 x.cells? e size ag
   | _ => none
 | .pr n sz i off => match h n with
   | some (.row sz' es) => gd (sz = sz') (W7 es[i]? off size ag)
   | _ => none
 | .pi _ es i off => W7 es[i]? off size ag
 | _ => none
def Qq (n w e size : Nat) (a b : Option (List PV)) : M9 := match a, b with
 | some cs, some ys => gd (e + size ≤ w) (some (.dead, [.upd n (.var (.vec w (splice cs e ys)))]))
 | _, _ => none
def Ahi (n : Nat) (x : SV) (off size : Nat) (y : SV) : M9 :=
 if off = 0 ∧ size = x.width then some (.dead, [.upd n (.var y)])
 else match spl x.segs off size y.segs with
  | some l => some (.dead, [.upd n (.var (.agg l))])
  | none => Qq n x.width off size x.cells? y.cells?
def A75 (h : Nat → Option Blk) (size : Nat) (a y : SV) : M9 := gd (y.width = size ∧ y.flatB = true) (match a with
 | .p n off => match h n with
   | some (.var x) => Ahi n x off size y
   | _ => none
 | .ps n e => match h n with
   | some (.var x) => Qq n x.width e size x.cells? y.cells?
   | _ => none
 | .pr n sz i off => match h n with
   | some (.row sz' es) => match y.cells? with
     | some ys => gd (sz = sz' ∧ i < es.length ∧ off + size ≤ sz') (some (.dead, [.upd n (.row sz' (es.set i (splice (es.getD i []) off ys)))]))
     | none => none
   | _ => none
 | _ => none)
def Aqs (h : Nat → Option Blk) (sz0 : Nat) (lo hi mx : Bool) (x : SV) (l : List SV) : M9 := match Dc h x with
 | some es => match Et lo 0 l with
   | some (i, l) => match Et hi es.length l with
     | some (j, l) => match Et mx es.length l with
       | some (m, _) => gd (0 ≤ i ∧ i ≤ j ∧ j ≤ m ∧ m ≤ es.length) (match x with
         | .pv (.sl full sz _) => gd (es.isEmpty = true ∨ sz = sz0) (some (.pv (.sl ((mx && decide (m = j)) || (full && !hi && !mx)) sz ((es.take j.toNat).drop i.toNat)), []))
         | .os n => match h n with
           | some (.row sz _) => gd (sz = sz0) (some (.pv (.sl (mx && decide (m = j)) sz ((es.take j.toNat).drop i.toNat)), [.frz n (.sl false sz es)]))
           | _ => none
         | _ => none)
       | none => none
     | none => none
   | none => none
 | none => none
def A21 (lo hi : Bool) (s : List UInt8) (l : List SV) : M9 := match Et lo 0 l with
 | some (i, l) => match Et hi s.length l with
   | some (j, _) => gd (0 ≤ i ∧ i ≤ j ∧ j ≤ s.length) (I5 (.s ((s.take j.toNat).drop i.toNat)))
   | none => none
 | none => none
def A69 (h : Nat → Option Blk) (d sz bytes : Nat) (x y : SV) : M9 := match x with
 | .os n => match h n, Dc h y with
   | some (.row sz' es), some ys => gd (sz = sz' ∧ (ys.isEmpty = true ∨ Jn h y = sz) ∧ (es.length + ys.length) * bytes ≤ 70368744177664) (some (.os d, [.del n, .new d (.row sz (es ++ ys))]))
   | _, _ => none
 | .pv (.sl true z es) => match Dc h y with
   | some ys => gd ((ys.isEmpty = true → es.isEmpty = true) ∧ (es.isEmpty = true ∨ z = sz) ∧ (ys.isEmpty = true ∨ Jn h y = sz) ∧ (es.length + ys.length) * bytes ≤ 70368744177664) (some (.os d, [.new d (.row sz (es ++ ys))]))
   | none => none
 | .ov n z lo i => match h n, Gx h y with
   | some (.row sz' es), some ys => gd (z = sz ∧ lo = 0 ∧ sz = sz' ∧ (ys.isEmpty = true ∨ Ji h y = sz) ∧ i + ys.length ≤ es.length) (some (.ov n sz 0 (i + ys.length), [.upd n (.row sz (es.take i ++ ys ++ es.drop (i + ys.length)))]))
   | _, _ => none
 | _ => none
def faC (off : Nat) : SV → M9
 | .p n o => some (.p n (o + off), [])
 | .ps n o => some (.ps n (o + off), [])
 | .pr n sz i o => some (.pr n sz i (o + off), [])
 | .pi sz es i o => some (.pi sz es i (o + off), [])
 | _ => none
def iaC (len stride : Nat) (j : Int) (a : SV) : M9 := gd (0 ≤ j ∧ j < len) (match a with
 | .p n o => some (.ps n (o + j.toNat * stride), [])
 | .ps n o => some (.ps n (o + j.toNat * stride), [])
 | .pr n sz i o => some (.pr n sz i (o + j.toNat * stride), [])
 | .pi sz es i o => some (.pi sz es i (o + j.toNat * stride), [])
 | _ => none)
def A5d (h : Nat → Option Blk) (sz : Nat) (j : Int) : SV → M9
 | .pv (.sl _ sz' es) => gd (0 ≤ j ∧ j < es.length ∧ sz = sz') (some (.pi sz es j.toNat 0, []))
 | .os n => match h n with
   | some (.row sz' es) => gd (0 ≤ j ∧ j < es.length ∧ sz = sz') (some (.pr n sz j.toNat 0, []))
   | _ => none
 | _ => none
def A52 (g : Bool) (ks : List K1) (x : SV) : M9 := match ks, x with
 | [], .p _ _ => I5 (.b g)
 | [], .pi _ _ _ _ => I5 (.b g)
 | [], .pv (.v (.pointer none)) => I5 (.b !g)
 | _ :: _, .fn _ _ => I5 (.b g)
 | _ :: _, .pv (.v .nilFunc) => I5 (.b !g)
 | _, _ => none
def Ays (o : Option (List (List PV))) : M9 := match o with
 | some es => I5 (.i .i64 es.length)
 | none => none
def A0v (o : Option (List (List PV))) : M9 := match o with
 | some es => match unE es with
   | some l => I5 (.s l)
   | none => none
 | none => none
def Az1 (neg : Bool) (o : Option (List (List PV))) : M9 := match o with
 | some es => gd (es.isEmpty = false) (I5 (.b neg))
 | none => none
def A55 (h : Nat → Option Blk) (sz : Nat) (x y : SV) : M9 := match x with
 | .os n => match h n, Gx h y with
   | some (.row sz' es), some ys => gd (sz = sz' ∧ (ys.isEmpty = true ∨ Ji h y = sz)) (some (.pv (.i .i64 ((min ys.length (es.length - 0) : Nat) : Int)), [.upd n (.row sz (es.take 0 ++ ys.take (es.length - 0) ++ es.drop (0 + min ys.length (es.length - 0))))]))
   | _, _ => none
 | .ov n z lo hi => match h n, Gx h y with
   | some (.row sz' es), some ys => gd (z = sz ∧ sz = sz' ∧ (ys.isEmpty = true ∨ Ji h y = sz)) (some (.pv (.i .i64 ((min ys.length (hi - lo) : Nat) : Int)), [.upd n (.row sz (es.take lo ++ ys.take (hi - lo) ++ es.drop (lo + min ys.length (hi - lo))))]))
   | _, _ => none
 | _ => none
def A2z (h : Nat → Option Blk) (sz : Nat) (lo hi : Bool) (x : SV) (l : List SV) : M9 := match x with
 | .os n => match Fx (h n), Et lo 0 l with
   | some es, some (i, l) => match Et hi es.length l with
     | some (j, _) => gd (sz = El (h n) ∧ 0 ≤ i ∧ i ≤ j ∧ j ≤ es.length) (some (.ov n sz i.toNat j.toNat, []))
     | none => none
   | _, _ => none
 | .pv p => Aqs h sz lo hi false (.pv p) l
 | _ => none
def Alx (sz : Nat) : List SV → Bool
 | [] => true
 | x :: l => decide (x.width = sz) && Alx sz l
def opC (d : Nat) (h : Nat → Option Blk) (k : Kd) (l : List SV) : M9 :=
 match k with
 | .mv => match l with | [x] => some (x, []) | _ => none
 | .pick => match l with | [.pv (.b c), x, y] => some (if c then x else y, []) | _ => none
 | .new z => some (.p d 0, [.new d (.var z)])
 | .box => match l with | [x] => gd (x.flatB = true) (some (.p d 0, [.new d (.var (x.kill d))])) | _ => none
 | .bld ns => gd (I0 l = ns ∧ SV.flatBL l = true) (some (.agg (Mx l), []))
 | .bldV n sz => gd (Alx sz l = true) (match SV.cellsL? l with | some cs => gd (cs.length = n) (some (.vec n cs, [])) | none => none)
 | .bsl sz => match Jg h l with | some (es, u) => gd (es.all (fun c => decide (c.length = sz)) = true) (some (.os d, u ++ [.new d (.row sz es)])) | none => none
 | .ld size ag => match l with | [a] => ldC h size ag a | _ => none
 | .sto size => match l with | [a, y] => A75 h size a y | _ => none
 | .bin op => match l with | [.pv (.i k a), .pv (.i k' b)] => Au2 op k k' a b | [.pv (.s a), .pv (.s b)] => Au0 op a b | _ => none
 | .binB op => match l with | [.pv (.b x), .pv (.b y)] => (match op with | .eql => I5 (.b (decide (x = y))) | .neq => I5 (.b (!decide (x = y))) | _ => none) | _ => none
 | .eqv neg ks => match l with
   | [x, y] => match x.cells?, y.cells? with
     | some a, some b => match Arh a b with
       | some r => gd (x.isAg = true ∧ y.isAg = true ∧ a.map PV.kind = ks ∧ b.map PV.kind = ks) (I5 (.b (neg ^^ r)))
       | none => none
     | _, _ => none
   | [x] => A52 neg ks x
   | _ => none
 | .un op => match l with | [.pv (.b x)] => (match op with | .not => I5 (.b !x) | _ => none) | [.pv (.i k n)] => (match op with | .neg => I5 (.i k (k.wrap (0 - n))) | _ => none) | _ => none
 | .cvI k => match l with | [.pv (.i _ n)] => I5 (.i k (k.wrap n)) | _ => none
 | .cvS => match l with | [.pv (.s l)] => I5 (.s l) | _ => none
 | .s2b => match l with | [.pv (.s l)] => some (.os d, [.new d (.row 1 (Am l))]) | _ => none
 | .b2s => match l with | [.pv (.sl _ _ es)] => A0v (some es) | [.os n] => A0v (Gy (h n)) | _ => none
 | .mks zero bytes => match l with | [.pv (.i _ l), .pv (.i _ c)] => gd (0 ≤ l ∧ l ≤ c ∧ c * bytes ≤ 70368744177664) (some (.os d, [.new d (.row zero.length (List.replicate l.toNat zero))])) | _ => none
 | .slc sz lo hi mx => match l with | x :: l => Aqs h sz lo hi mx x l | _ => none
 | .sls lo hi => match l with | .pv (.s s) :: l => A21 lo hi s l | _ => none
 | .fa off => match l with | [a] => faC off a | _ => none
 | .iaC off => match l with | [a] => faC off a | _ => none
 | .iaS sz => match l with | [a, .pv (.i _ j)] => A5d h sz j a | _ => none
 | .iaA len stride => match l with | [a, .pv (.i _ j)] => iaC len stride j a | _ => none
 | .fld off size ag => match l with | [x] => gd (x.isAg = true) (Ab7 x off size ag) | _ => none
 | .ixA len stride ag => match l with | [x, .pv (.i _ j)] => gd (0 ≤ j ∧ j < len ∧ x.isAg = true) (W7 x.cells? (j.toNat * stride) stride ag) | _ => none
 | .ixS => match l with | [.pv (.s l), .pv (.i _ j)] => gd (0 ≤ j ∧ j < l.length) (I5 (.i .u8 (l.getD j.toNat 0).toNat)) | _ => none
 | .ext k => match l with | [.tup l] => (nth l k).map fun x => (x, []) | _ => none
 | .len => match l with | [.pv (.sl _ _ es)] => Ays (some es) | [.os n] => Ays (Gy (h n)) | [.ov _ _ lo hi] => I5 (.i .i64 ((hi - lo : Nat) : Int)) | _ => none
 | .lenS => match l with | [.pv (.s l)] => I5 (.i .i64 l.length) | _ => none
 | .app sz bytes => match l with | [x, y] => A69 h d sz bytes x y | _ => none
 | .mx => match l with | [.pv (.i k a), .pv (.i k' b)] => gd (k = k') (I5 (.i k (max a b))) | _ => none
 | .mn => match l with | [.pv (.i k a), .pv (.i k' b)] => gd (k = k') (I5 (.i k (min a b))) | _ => none
 | .mkf fn => some (.fn fn l, [])
 | .nilc => match l with
   | [.p n o] => some (.p n o, [])
   | [.ps n o] => some (.ps n o, [])
   | [.pr n z i o] => some (.pr n z i o, [])
   | [.pi z es i o] => some (.pi z es i o, [])
   | [.fn f l] => some (.fn f l, [])
   | _ => none
 | .eqn neg => match l with | [.pv (.sl _ _ es)] => Az1 neg (some es) | [.os n] => Az1 neg (Gy (h n)) | _ => none
 | .cpy sz => match l with | [x, y] => A55 h sz x y | _ => none
 | .slv sz lo hi => match l with | x :: l => A2z h sz lo hi x l | _ => none
 | .slx sz => match l with | [.pv p, .pv (.i k j)] => Aqs h sz false true false (.pv p) [.pv (.i k j)] | _ => none
 | .rgs => match l with | [.pv (.s l)] => some (.p d 0, [.new d (.it l 0)]) | _ => none
 | .nxs => match l with
   | [.p n 0] => match h n with
     | some (.it l pos) => if pos < l.length then some (.tup [.pv (.b true), .pv (.i .i64 pos), .pv (.i .i32 (Aun l pos).1)], [.upd n (.it l (pos + (Aun l pos).2))]) else some (.tup [.pv (.b false)], [])
     | _ => none
   | _ => none
 | .r2s => match l with | [.pv (.i _ n)] => I5 (.s (Bao n)) | _ => none
 | _ => none
theorem Di {p : Prop} [Decidable p] {r : M9} {y : SV × List HU} (h : gd p r = some y) : p ∧ r = some y := by
 unfold gd at h;split at h
 · exact ⟨by assumption, h⟩
 · cases h
theorem A3s : ∀ {a b : PV} {r : Bool}, pvB a b = some r → (r = true ↔ a = b) := by
 intro a b r h;cases a <;> cases b <;> simp only [pvB] at h
 all_goals first
  | (split at h
     · rename_i e; subst e; cases h; simp
     · cases h)
  | (cases h; done)
  | (cases h; simp)
theorem Akk : ∀ {a b : List PV} {r : Bool}, Arh a b = some r → (r = true ↔ a = b)
 | [], [], r, h => by cases h; simp
 | x :: l, y :: m, r, h => by
   simp only [Arh] at h;split at h
   · rename_i a b h1 h2;cases h;simp only [Bool.and_eq_true, List.cons.injEq, A3s h1, Akk h2]
   · cases h
 | [], _ :: _, r, h => by cases h
 | _ :: _, [], r, h => by cases h
theorem Arg {a b : List PV} {r : Bool} (h : Arh a b = some r) : M6 a b = r := by
 have := Akk h;unfold M6
 classical
 cases r
 · exact decide_eq_false fun e => by simpa using this.2 e
 · exact decide_eq_true (this.1 rfl)
theorem Ns {c off size ag x u} {K : KK} (h : W7 c off size ag = some (x, u)) (hk : K x u) : LoadK c off size ag K := by
 unfold W7 at h;split at h
 · obtain ⟨⟨h1, h2⟩, h3⟩ := Di h;cases h3;exact ⟨h1, h2, hk⟩
 · cases h
theorem Ap5 : ∀ {es : List (List PV)} {l : List UInt8}, unE es = some l → es = Am l
 | [], l, h => by cases h; rfl
 | c :: es, l, h => by
   unfold unE at h;split at h
   · cases h; rename_i e; cases e
   · rename_i n l' e;cases e;split at h
     · rename_i hn;obtain ⟨m, h1, rfl⟩ := Option.map_eq_some_iff.1 h;rw [Ap5 h1];simp only [Am, List.map_cons, List.cons.injEq, and_true, PV.i.injEq, true_and];rw [UInt8.toNat_ofNat'];omega
     · cases h
   · cases h
theorem Ec {v : PV} {x : SV} {u : List HU} (h : I5 v = some (x, u)) : x = .pv v ∧ u = [] := by cases h; exact ⟨rfl, rfl⟩
theorem Au1 {op k k' a b x u} {K : KK} (h : Au2 op k k' a b = some (x, u)) (hk : K x u) : Jo op k k' a b K := by
 cases op <;> simp only [Au2] at h <;> obtain ⟨h1, h2⟩ := Di h <;> obtain ⟨rfl, rfl⟩ := Ec h2
 all_goals first | exact ⟨h1, hk⟩ | exact ⟨h1.1, h1.2, hk⟩
theorem Auz {op a b x u} {K : KK} (h : Au0 op a b = some (x, u)) (hk : K x u) : Y2 op a b K := by
 cases op <;> simp only [Au0] at h
 case add => obtain ⟨h1, h2⟩ := Di h; obtain ⟨rfl, rfl⟩ := Ec h2; exact ⟨h1, hk⟩
 all_goals first | (obtain ⟨rfl, rfl⟩ := Ec h; exact hk) | cases h
theorem Zy {z : SV} {off size ag x u} {K : KK} (h : Ab7 z off size ag = some (x, u)) (hk : K x u) : M1 z off size ag K := by
 unfold Ab7 at h;unfold M1 W0;split at h
 · rename_i v hv; cases h; rw [hv]; exact hk
 · rename_i hv; rw [hv]; exact Ns h hk
theorem As5 {h : Nat → Option Blk} {size ag} {a x : SV} {u} {K : KK} (hh : ldC h size ag a = some (x, u)) (hk : K x u) : G8 h size ag a K := by
 cases a <;> simp only [ldC] at hh <;> simp only [G8]
 case p n off =>
  split at hh
  · rename_i y hy; rw [hy]; exact Zy hh hk
  · cases hh
 case ps n off =>
  split at hh
  · rename_i y hy; rw [hy]; exact Ns hh hk
  · cases hh
 case pr n sz i off =>
  split at hh
  · rename_i y es hy; rw [hy]; obtain ⟨h1, h2⟩ := Di hh; exact ⟨h1, Ns h2 hk⟩
  · cases hh
 case pi => exact Ns hh hk
 all_goals cases hh
theorem Tw {n w e size a b x u} {K : KK} (h : Qq n w e size a b = some (x, u)) (hk : K x u) : Hs n w e size a b K := by
 unfold Qq at h;split at h
 · obtain ⟨h1, h2⟩ := Di h; cases h2; exact ⟨h1, hk⟩
 · cases h
theorem Amd {n : Nat} {z : SV} {off size : Nat} {y x : SV} {u} {K : KK} (h : Ahi n z off size y = some (x, u)) (hk : K x u) : Tu n z off size y K := by
 unfold Ahi at h;unfold Tu;split at h
 · rename_i e; rw [if_pos e]; cases h; exact hk
 · rename_i e; rw [if_neg e];unfold Tv;split at h
   · rename_i l hl; rw [hl]; cases h; exact hk
   · rename_i hl; rw [hl]; exact Tw h hk
theorem Awz {h : Nat → Option Blk} {size} {a y x : SV} {u} {K : KK} (hh : A75 h size a y = some (x, u)) (hk : K x u) : Ko h size a y K := by
 obtain ⟨⟨h1, h2⟩, hh⟩ := Di hh;cases a <;> simp only at hh <;> simp only [Ko]
 case p n off =>
  split at hh
  · rename_i z hz; rw [hz]; exact ⟨h1, h2, Amd hh hk⟩
  · cases hh
 case ps n off =>
  split at hh
  · rename_i z hz; rw [hz]; exact ⟨h1, h2, Tw hh hk⟩
  · cases hh
 case pr n sz i off =>
  split at hh
  · rename_i sz' es hz; rw [hz];split at hh
    · rename_i ys hys;obtain ⟨⟨h3, h4, h5⟩, h6⟩ := Di hh;cases h6;refine ⟨h1, h2, h3, ?_⟩;rw [hys]; exact ⟨h4, h5, hk⟩
    · cases hh
  · cases hh
 all_goals cases hh
theorem emp {α : Type} {l : List α} (h : l.isEmpty = true) : l = [] := by simpa using h
theorem Acu {α : Type} {l : List α} {p : Prop} (h : l.isEmpty = true ∨ p) : l = [] ∨ p := h.imp_left emp
theorem Abc {h : Nat → Option Blk} {sz0 lo hi mx} {y x : SV} {l u} {K : KK} (hh : Aqs h sz0 lo hi mx y l = some (x, u)) (hk : K x u) : Pt y h sz0 lo hi mx l (Dc h y) K := by
 unfold Aqs at hh;split at hh
 · rename_i es hes;rw [hes];split at hh
   · rename_i i l1 hi1;simp only [Pt, Ad3, hi1, Ad2];split at hh
     · rename_i j l2 hj;simp only [hj, Ad1];split at hh
       · rename_i m l3 hm;simp only [hm];obtain ⟨⟨h1, h2, h3, h4⟩, h5⟩ := Di hh;refine ⟨h1, h2, h3, h4, ?_⟩;split at h5
         · obtain ⟨h6, h7⟩ := Di h5;cases h7;exact ⟨Acu h6, hk⟩
         · split at h5
           · rename_i hn;obtain ⟨h6, h7⟩ := Di h5;cases h7;simp only [Si, SV.nm, hn];exact ⟨h6, hk⟩
           · cases h5
         · cases h5
       · cases hh
     · cases hh
   · cases hh
 · cases hh
theorem Aw8 {lo hi} {s : List UInt8} {l} {x : SV} {u} {K : KK} (hh : A21 lo hi s l = some (x, u)) (hk : K x u) : Ad0 hi s (Et lo 0 l) K := by
 unfold A21 at hh;split at hh
 · rename_i i l1 hi1;simp only [hi1, Ad0];split at hh
   · rename_i j l2 hj;simp only [hj, Ahn];obtain ⟨⟨h1, h2, h3⟩, h4⟩ := Di hh;obtain ⟨rfl, rfl⟩ := Ec h4;exact ⟨h1, h2, h3, hk⟩
   · cases hh
 · cases hh
theorem A0y {h : Nat → Option Blk} {d sz bytes} {y z x : SV} {u} {K : KK} (hh : A69 h d sz bytes y z = some (x, u)) (hk : K x u) : Ii h d sz bytes y z K := by
 unfold A69 at hh;split at hh
 · split at hh
   · rename_i n _ _ sz' es ys h1 h2;obtain ⟨⟨h3, h4, h5⟩, h6⟩ := Di hh;cases h6;simp only [Ii, Qh, h1, h2];exact ⟨h3, Acu h4, h5, hk⟩
   · cases hh
 · split at hh
   · rename_i ys h2;obtain ⟨⟨h3, h4, h5, h6⟩, h7⟩ := Di hh;cases h7;simp only [Ii, Agv, h2];exact ⟨fun e => emp (h3 (by simp [e])), Acu h4, Acu h5, h6, hk⟩
   · cases hh
 · split at hh
   · rename_i n _ lo i _ _ sz' es ys h1 h2;obtain ⟨⟨h3, h4, h5, h6, h7⟩, h8⟩ := Di hh;cases h8;simp only [Ii, Qg, h1, h2];exact ⟨h3, h4, h5, Acu h6, h7, hk⟩
   · cases hh
 · cases hh
theorem At8 {off} {a x : SV} {u} {K : KK} (hh : faC off a = some (x, u)) (hk : K x u) : Lc off a K := by
 cases a <;> simp only [faC] at hh <;> first | (cases hh; exact hk) | cases hh
theorem Aza {len stride j} {a x : SV} {u} {K : KK} (hh : iaC len stride j a = some (x, u)) (hk : K x u) : Ua len stride j a K := by
 obtain ⟨⟨h1, h2⟩, hh⟩ := Di hh;cases a <;> simp only at hh <;> first | (cases hh; exact ⟨h1, h2, hk⟩) | cases hh
theorem Ay9 {h : Nat → Option Blk} {sz j} {a x : SV} {u} {K : KK} (hh : A5d h sz j a = some (x, u)) (hk : K x u) : Jd h sz j a K := by
 unfold A5d at hh;split at hh
 · obtain ⟨⟨h1, h2, h3⟩, h4⟩ := Di hh; cases h4; exact ⟨h1, h2, h3, hk⟩
 · split at hh
   · rename_i hn;obtain ⟨⟨h1, h2, h3⟩, h4⟩ := Di hh; cases h4;simp only [Jd, P5, hn];exact ⟨h1, h2, h3, hk⟩
   · cases hh
 · cases hh
theorem Az3 {g ks} {a x : SV} {u} {K : KK} (hh : A52 g ks a = some (x, u)) (hk : K x u) : eq1 g ks a K := by
 unfold A52 at hh;split at hh <;> first | (obtain ⟨rfl, rfl⟩ := Ec hh; exact hk) | cases hh
theorem Ayr {o} {x : SV} {u} {K : KK} (hh : Ays o = some (x, u)) (hk : K x u) : Kg o K := by
 unfold Ays at hh;split at hh
 · obtain ⟨rfl, rfl⟩ := Ec hh; exact hk
 · cases hh
theorem A0u {o} {x : SV} {u} {K : KK} (hh : A0v o = some (x, u)) (hk : K x u) : Mu o K := by
 unfold A0v at hh;split at hh
 · split at hh
   · rename_i l hl;obtain ⟨rfl, rfl⟩ := Ec hh;exact ⟨l, Ap5 hl, hk⟩
   · cases hh
 · cases hh
theorem Az0 {g o} {x : SV} {u} {K : KK} (hh : Az1 g o = some (x, u)) (hk : K x u) : Tf g o K := by
 unfold Az1 at hh;split at hh
 · rename_i es;obtain ⟨h1, h2⟩ := Di hh;obtain ⟨rfl, rfl⟩ := Ec h2;intro b hb;have : b = false := hb (by rintro rfl; cases h1);subst this;simpa using hk
 · cases hh
theorem Az7 {h : Nat → Option Blk} {sz} {y z x : SV} {u} {K : KK} (hh : A55 h sz y z = some (x, u)) (hk : K x u) : Mr h sz y z K := by
 unfold A55 at hh;split at hh
 · split at hh
   · rename_i h1 h2;obtain ⟨⟨h3, h4⟩, h5⟩ := Di hh;cases h5;simp only [Mr, Ms, h1, h2];exact ⟨h3, Acu h4, hk⟩
   · cases hh
 · split at hh
   · rename_i h1 h2;obtain ⟨⟨h0, h3, h4⟩, h5⟩ := Di hh;cases h5;simp only [Mr, Ms, h1, h2];exact ⟨h0, h3, Acu h4, hk⟩
   · cases hh
 · cases hh
theorem Aw7 {h : Nat → Option Blk} {sz lo hi} {y x : SV} {l u} {K : KK} (hh : A2z h sz lo hi y l = some (x, u)) (hk : K x u) : Ps h sz lo hi y l K := by
 unfold A2z at hh;split at hh
 · split at hh
   · rename_i es i l1 h1 h2;split at hh
     · rename_i j l2 h3;obtain ⟨⟨h4, h5, h6, h7⟩, h8⟩ := Di hh;cases h8;simp only [Ps, Aqp, h1, h2, h3, Aqo];exact ⟨h4, h5, h6, h7, hk⟩
     · cases hh
   · cases hh
 · exact Abc hh hk
 · cases hh
theorem Agz {sz : Nat} : ∀ {l : List SV}, Alx sz l = true → Y3 sz l
 | [], _ => trivial
 | x :: l, h => by
   simp only [Alx, Bool.and_eq_true, decide_eq_true_eq] at h;exact ⟨h.1, Agz h.2⟩
theorem A30 {d : Nat} {h : Nat → Option Blk} {k : Kd} {l : List SV} {x : SV} {u : List HU} (hh : opC d h k l = some (x, u)) {K : KK} (hk : K x u) : Aw d h k l K := by
 cases k <;> simp only [opC] at hh <;> simp only [Aw]
 case mv => split at hh <;> first | (cases hh; exact hk) | cases hh
 case pick =>
  split at hh
  · rename_i c y z;cases hh;cases c <;> exact hk
  · cases hh
 case new => cases hh; exact hk
 case box =>
  split at hh
  · obtain ⟨h1, h2⟩ := Di hh; cases h2; exact ⟨h1, hk⟩
  · cases hh
 case bld => obtain ⟨⟨h1, h2⟩, h3⟩ := Di hh; cases h3; exact ⟨h1, h2, hk⟩
 case bldV =>
  obtain ⟨h1, h2⟩ := Di hh;refine ⟨Agz h1, ?_⟩;unfold J5;split at h2
  · rename_i hc; obtain ⟨h3, h4⟩ := Di h2; cases h4; rw [hc]; exact ⟨h3, hk⟩
  · cases h2
 case bsl =>
  unfold Nz;split at hh
  · rename_i hc; obtain ⟨h3, h4⟩ := Di hh; cases h4; rw [hc];exact ⟨by simpa using h3, hk⟩
  · cases hh
 case ld => split at hh <;> first | exact As5 hh hk | cases hh
 case sto => split at hh <;> first | exact Awz hh hk | cases hh
 case bin => split at hh <;> first | exact Au1 hh hk | exact Auz hh hk | cases hh
 case binB op =>
  split at hh
  · cases op <;> simp only at hh <;> first | (obtain ⟨rfl, rfl⟩ := Ec hh; exact hk) | cases hh
  · cases hh
 case eqv =>
  split at hh
  · split at hh
    · rename_i a b h1 h2;split at hh
      · rename_i r hr;obtain ⟨⟨h3, h4, h5, h6⟩, h7⟩ := Di hh;obtain ⟨rfl, rfl⟩ := Ec h7;refine ⟨h3, h4, ?_⟩;rw [h1, h2];refine ⟨h5, h6, ?_⟩;rw [Arg hr]; exact hk
      · cases hh
    · cases hh
  · exact Az3 hh hk
  · cases hh
 case un op =>
  split at hh
  · cases op <;> simp only at hh <;> first | (obtain ⟨rfl, rfl⟩ := Ec hh; exact hk) | cases hh
  · cases op <;> simp only at hh <;> first | (obtain ⟨rfl, rfl⟩ := Ec hh; exact hk) | cases hh
  · cases hh
 case cvI => split at hh <;> first | (obtain ⟨rfl, rfl⟩ := Ec hh; exact hk) | cases hh
 case cvS => split at hh <;> first | (obtain ⟨rfl, rfl⟩ := Ec hh; exact hk) | cases hh
 case s2b => split at hh <;> first | (cases hh; exact hk) | cases hh
 case b2s => split at hh <;> first | exact A0u hh hk | cases hh
 case mks =>
  split at hh
  · obtain ⟨⟨h1, h2, h3⟩, h4⟩ := Di hh; cases h4; exact ⟨h1, h2, h3, hk⟩
  · cases hh
 case slc => split at hh <;> first | exact Abc hh hk | cases hh
 case sls => split at hh <;> first | exact Aw8 hh hk | cases hh
 case fa => split at hh <;> first | exact At8 hh hk | cases hh
 case iaC => split at hh <;> first | exact At8 hh hk | cases hh
 case iaS => split at hh <;> first | exact Ay9 hh hk | cases hh
 case iaA => split at hh <;> first | exact Aza hh hk | cases hh
 case fld =>
  split at hh
  · obtain ⟨h1, h2⟩ := Di hh; exact ⟨h1, Zy h2 hk⟩
  · cases hh
 case ixA =>
  split at hh
  · obtain ⟨⟨h1, h2, h3⟩, h4⟩ := Di hh; exact ⟨h1, h2, h3, Ns h4 hk⟩
  · cases hh
 case ixS =>
  split at hh
  · obtain ⟨⟨h1, h2⟩, h4⟩ := Di hh; obtain ⟨rfl, rfl⟩ := Ec h4; exact ⟨h1, h2, hk⟩
  · cases hh
 case ext =>
  split at hh
  · obtain ⟨y, h1, h2⟩ := Option.map_eq_some_iff.1 hh; cases h2; simp only [Af1, h1]; exact hk
  · cases hh
 case len => split at hh <;> first | exact Ayr hh hk | (obtain ⟨rfl, rfl⟩ := Ec hh; exact hk) | cases hh
 case lenS => split at hh <;> first | (obtain ⟨rfl, rfl⟩ := Ec hh; exact hk) | cases hh
 case app => split at hh <;> first | exact A0y hh hk | cases hh
 case mx =>
  split at hh
  · obtain ⟨h1, h4⟩ := Di hh; obtain ⟨rfl, rfl⟩ := Ec h4; exact ⟨h1, hk⟩
  · cases hh
 case mn =>
  split at hh
  · obtain ⟨h1, h4⟩ := Di hh; obtain ⟨rfl, rfl⟩ := Ec h4; exact ⟨h1, hk⟩
  · cases hh
 case mkf => cases hh; exact hk
 case nilc => split at hh <;> first | (cases hh; exact hk) | cases hh
 case eqn => split at hh <;> first | exact Az0 hh hk | cases hh
 case cpy => split at hh <;> first | exact Az7 hh hk | cases hh
 case slv => split at hh <;> first | exact Aw7 hh hk | cases hh
 case slx => split at hh <;> first | exact Abc hh hk | cases hh
 case rgs => split at hh <;> first | (cases hh; exact hk) | cases hh
 case nxs =>
  split at hh
  · split at hh
    · rename_i n _ l pos hn;simp only [Wx, Aia, hn];split at hh
      · rename_i hp; rw [if_pos hp]; cases hh; exact hk
      · rename_i hp; rw [if_neg hp]; cases hh; exact hk
    · cases hh
  · cases hh
 case r2s => split at hh <;> first | (obtain ⟨rfl, rfl⟩ := Ec hh; exact hk) | cases hh
 all_goals cases hh
end Go.Proofs.YtannaphhhkncoaaGreat.Fw
namespace Go.Proofs.YtannaphhhkncoaaGreat.Fw
open Go.RowKit
variable {P : Program} {F : Fr} {N : Nat} {ρ ρ' : Nat → Value} {s : FS} {a : Act} {w w' : World} {V V' : View}
mutual
theorem Conc.mapn (hV : V.le V') {f : Nat → Nat} : ∀ {x : SV} {v : Value}, (∀ n ∈ tn x, ρ' (f n) = ρ n) → Conc V ρ x v → Conc V' ρ' (x.rn f) v
 | .pv x, v, _, h => by simp only [SV.rn, Conc] at *; exact h.mono hV
 | .vec n cs, v, _, h => by simp only [SV.rn, Conc] at *; obtain ⟨vs, a, b, c⟩ := h; exact ⟨vs, a, b, c.mono hV⟩
 | .agg l, v, hc, h => by simp only [SV.rn, Conc, tn] at *; obtain ⟨vs, a, b⟩ := h; exact ⟨vs, a, Cells.mapn hV hc b⟩
 | .tup l, v, hc, h => by simp only [SV.rn, Conc, tn] at *; obtain ⟨vs, a, b⟩ := h; exact ⟨vs, a, ConcL.mapn hV hc b⟩
 | .p n off, v, hc, h => by simp only [SV.rn, Conc, tn, List.mem_singleton, forall_eq] at *; rw [hc]; exact h
 | .ps n off, v, hc, h => by simp only [SV.rn, Conc, tn, List.mem_singleton, forall_eq] at *; rw [hc]; exact h
 | .pr n sz i off, v, hc, h => by simp only [SV.rn, Conc, tn, List.mem_singleton, forall_eq] at *; rw [hc]; exact h
 | .pi sz es i off, v, _, h => by
   simp only [SV.rn, Conc] at *;obtain ⟨b, o, arr, h1, h2, h3⟩ := h;exact ⟨b, o, arr, h1, hV _ _ h2, fun c hc => ⟨(h3 c hc).1, (h3 c hc).2.mono hV⟩⟩
 | .os n, v, hc, h => by simp only [SV.rn, Conc, tn, List.mem_singleton, forall_eq] at *; rw [hc]; exact h
 | .ov n sz lo hi, v, hc, h => by simp only [SV.rn, Conc, tn, List.mem_singleton, forall_eq] at *; rw [hc]; exact h
 | .fn f cap, v, hc, h => by simp only [SV.rn, Conc, tn] at *; obtain ⟨vs, a, b⟩ := h; exact ⟨vs, a, ConcL.mapn hV hc b⟩
 | .dead, v, _, h => by simp only [SV.rn, Conc]
theorem ConcL.mapn (hV : V.le V') {f : Nat → Nat} : ∀ {l : List SV} {vs : List Value}, (∀ n ∈ Bd l, ρ' (f n) = ρ n) → ConcL V ρ l vs → ConcL V' ρ' (SV.rnL f l) vs
 | [], vs, _, h => by simp only [SV.rnL, ConcL] at *; exact h
 | x :: l, vs, hc, h => by
   simp only [SV.rnL, ConcL, Bd, List.mem_append] at *;obtain ⟨u, us, a, b, c⟩ := h;exact ⟨u, us, a, Conc.mapn hV (fun n hn => hc n (.inl hn)) b, ConcL.mapn hV (fun n hn => hc n (.inr hn)) c⟩
theorem Cells.mapn (hV : V.le V') {f : Nat → Nat} : ∀ {l : List SV} {vs : List Value}, (∀ n ∈ Bd l, ρ' (f n) = ρ n) → Cells V ρ l vs → Cells V' ρ' (SV.rnL f l) vs
 | [], vs, _, h => by simp only [SV.rnL, Cells] at *; exact h
 | x :: l, vs, hc, h => by
   simp only [SV.rnL, Cells, Bd, List.mem_append] at *;obtain ⟨u, us, a, b, c, d, e⟩ := h;exact ⟨u, us, a, Conc.mapn hV (fun n hn => hc n (.inl hn)) b, by rw [Nb]; exact c, d, Cells.mapn hV (fun n hn => hc n (.inr hn)) e⟩
end
def tnB : Blk → List Nat
 | .var x => tn x
 | _ => []
theorem Own.mapn (hV : V.le V') {f : Nat → Nat} {n m : Nat} {blk : Blk} (he : ρ' m = ρ n) (hc : ∀ k ∈ tnB blk, ρ' (f k) = ρ k) (h : Own w V ρ n blk) : Own w V' ρ' m (blk.rn f) := by
 cases blk with
 | var x =>
   obtain ⟨b, vs, ty, fr, u, g1, g2, g3, g4, g5, g6, g7⟩ := h;exact ⟨b, vs, ty, fr, u, he.trans g1, g2, g3, g4.mapn hV hc, g5, by rw [Nb]; exact g6, g7⟩
 | row sz es => exact Own.closed (blk := .row sz es) rfl hV he h
 | rowc sz es c =>
   have := h.congr (w' := w) hV (fun _ _ => rfl);simp only [Blk.rn, Own] at this ⊢; rw [he]; exact this
 | it l p =>
   have := h.congr (w' := w) hV (fun _ _ => rfl);simp only [Blk.rn, Own] at this ⊢; rw [he]; exact this
mutual
theorem A1h : ∀ x : SV, x.rn id = x
 | .agg l => by simp only [SV.rn, Abh l]
 | .tup l => by simp only [SV.rn, Abh l]
 | .fn f l => by simp only [SV.rn, Abh l]
 | .pv _ => rfl
 | .vec _ _ => rfl
 | .p _ _ => rfl
 | .ps _ _ => rfl
 | .pr _ _ _ _ => rfl
 | .pi _ _ _ _ => rfl
 | .os _ => rfl
 | .ov _ _ _ _ => rfl
 | .dead => rfl
theorem Abh : ∀ l : List SV, SV.rnL id l = l
 | [] => rfl
 | x :: l => by simp only [SV.rnL, A1h x, Abh l]
end
theorem Oy : ∀ (u v : List HU) (s : FS), s.hup (u ++ v) = (s.hup u).hup v
 | [], v, s => rfl
 | .new n b :: u, v, s => Oy u v _
 | .upd n b :: u, v, s => Oy u v _
 | .del n :: u, v, s => Oy u v _
 | .frz n x :: u, v, s => Oy u v _
 | .set t h :: u, v, s => Oy u v _
def Ad9 (g : Nat → Option Blk) (l : List Nat) : List HU := l.map fun n => match g n with
 | some b => .upd n b
 | none => .del n
theorem Ad8 (g : Nat → Option Blk) : ∀ (l : List Nat) (s : FS), (s.hup (Ad9 g l)).t = s.t ∧ ∀ q, (s.hup (Ad9 g l)).h q = if q ∈ l then g q else s.h q
 | [], s => ⟨rfl, fun q => by simp [Ad9, FS.hup]⟩
 | n :: l, s => by
   have key : s.hup (Ad9 g (n :: l)) = (s.seth n (g n)).hup (Ad9 g l) := by
    simp only [Ad9, List.map_cons];cases g n <;> rfl
   obtain ⟨h1, h2⟩ := Ad8 g l (s.seth n (g n));rw [key];refine ⟨h1, fun q => ?_⟩;rw [h2];by_cases hq : q ∈ l
   · simp [hq]
   · by_cases e : q = n
     · subst e; simp [hq, FS.seth]
     · simp [hq, e, FS.seth]
def Aez (l : List Nat) : List HU := l.map fun j => .new j (.it [] 0)
def Yy (l : List (Nat × PV)) : List HU := l.map fun p => .frz p.1 p.2
theorem Own.frzn (hV : V.le V') {n m : Nat} {p : PV} {blk : Blk} (hp : PConc V' p (ρ n)) (h : Own w V ρ m blk) : Own w V' ρ m (blk.frz n p) := by
 cases blk with
 | var x =>
   obtain ⟨b, vs, ty, fr, u, h1, h2, h3, h4, h5, h6, h7⟩ := h;exact ⟨b, vs, ty, fr, u, h1, h2, h3, h4.frz hV hp, h5, by rw [N7]; exact h6, h7⟩
 | row sz es => exact h.congr hV (fun _ _ => rfl)
 | rowc sz es c => exact h.congr hV (fun _ _ => rfl)
 | it l p => exact h.congr hV (fun _ _ => rfl)
theorem Asj : ∀ (l : List Nat) (s : FS), (∀ q z, (s.hup (Aez l)).h q = some z → q ∈ l ∨ q ∉ l ∧ ∃ y, s.h q = some y ∧ ∀ {R : Nat → Value}, (∀ n, n ∉ l → R n = ρ n) → Own w V ρ q y → Own w V R q z) ∧
 ∀ {R : Nat → Value} {k : Nat} {v : Value}, (∀ n, n ∉ l → R n = ρ n) → Conc V ρ (s.t k) v → Conc V R ((s.hup (Aez l)).t k) v := by
 intro l
 induction l generalizing ρ with
 | nil => exact fun s => ⟨fun q z h => .inr ⟨by simp, z, h, fun hr ho => by
    have e : z.rn id = z := by
     cases z with
     | var x => simp only [Blk.rn, A1h]
     | _ => rfl
    rw [← e];exact ho.mapn (fun _ _ x => x) (hr q (by simp)) fun k _ => hr k (by simp)⟩, fun hr h => h.agree (fun _ _ x => x) fun n hn => hr n (by simp)⟩
 | cons j l ih =>
   intro s;have key : s.hup (Aez (j :: l)) = ((s.kill j).seth j (some (.it [] 0))).hup (Aez l) := rfl;have up : ∀ {R : Nat → Value}, (∀ n, n ∉ j :: l → R n = ρ n) → ∀ n, n ∉ l → R n = upd ρ j (R j) n := fun hr n hn => by
    by_cases e : n = j
    · subst e; rw [A4]
    · rw [B0 e]; exact hr n (by simp [e, hn])
   rw [key];refine ⟨fun q z h => ?_, fun {R k v} hr h => ?_⟩
   · by_cases e : q = j
     · subst e; exact .inl List.mem_cons_self
     · by_cases hql : q ∈ l
       · exact .inl (List.mem_cons_of_mem _ hql)
       · refine .inr ⟨by simp [e, hql], ?_⟩;have h0 := fun (R : Nat → Value) => (ih (ρ := upd ρ j (R j)) _).1 q z h;have h1 := h0 (fun _ => undef);rcases h1 with h1 | ⟨_, y, h2, _⟩
         · exact absurd h1 hql
         · have h3 := h2;simp only [FS.seth, FS.kill, if_neg e] at h3;obtain ⟨y', hy, rfl⟩ := Option.map_eq_some_iff.1 h3;refine ⟨y', hy, fun {R} hr ho => ?_⟩;rcases h0 R with h1 | ⟨_, y2, h4, h5⟩
           · exact absurd h1 hql
           · rw [h2] at h4; cases h4;exact h5 (up hr) (ho.kill (fun _ _ x => x) e)
   · exact (ih (ρ := upd ρ j (R j)) _).2 (up hr) (h.kill (fun _ _ x => x))
theorem Afq : ∀ (l : List (Nat × PV)) (s : FS), (∀ q z, (s.hup (Yy l)).h q = some z → ∃ y, s.h q = some y ∧ (∀ p ∈ l, p.1 ≠ q) ∧ ((∀ p ∈ l, PConc V p.2 (ρ p.1)) → Own w V ρ q y → Own w V ρ q z)) ∧
 ∀ {k : Nat} {v : Value}, (∀ p ∈ l, PConc V p.2 (ρ p.1)) → Conc V ρ (s.t k) v → Conc V ρ ((s.hup (Yy l)).t k) v
 | [], s => ⟨fun q z h => ⟨z, h, by simp, fun _ h => h⟩, fun _ h => h⟩
 | (n, x) :: l, s => by
   obtain ⟨h1, h2⟩ := Afq l (s.frz n x);have key : s.hup (Yy ((n, x) :: l)) = (s.frz n x).hup (Yy l) := rfl;rw [key];refine ⟨fun q z h => ?_, fun {k v} hp h => h2 (fun p hm => hp p (List.mem_cons_of_mem _ hm)) (h.frz (fun _ _ x => x) (hp (n, x) List.mem_cons_self))⟩;obtain ⟨y, hy, h4, h5⟩ := h1 q z h;simp only [FS.frz] at hy;split at hy
   · cases hy
   · rename_i e;obtain ⟨y', hy', rfl⟩ := Option.map_eq_some_iff.1 hy;exact ⟨y', hy', fun p hp => by
      rcases List.mem_cons.1 hp with rfl | hp
      · exact Ne.symm e
      · exact h4 p hp, fun hp ho => h5 (fun p hm => hp p (List.mem_cons_of_mem _ hm)) (ho.frzn (fun _ _ x => x) (hp (n, x) List.mem_cons_self))⟩
def Blk.gp (n : Nat) : Blk → SV
 | .row _ _ => .os n
 | .rowc _ _ _ => .os n
 | _ => .p n 0
theorem A93 (f : Nat → Nat) (n : Nat) (b : Blk) : (b.gp n).rn f = b.gp (f n) := by cases b <;> rfl
theorem A3y {n : Nat} {b : Blk} (h : Own w V ρ n b) : Conc V ρ (b.gp n) (ρ n) := by
 cases b with
 | var x => obtain ⟨b, vs, ty, fr, u, h1, _⟩ := h; simp only [Blk.gp, Conc]; exact ⟨b, h1, h1⟩
 | row sz es => obtain ⟨base, cap, h1, _⟩ := h; simp only [Blk.gp, Conc]; exact ⟨trivial, by rw [h1]; trivial⟩
 | rowc sz es c => obtain ⟨base, h1, _⟩ := h; simp only [Blk.gp, Conc]; exact ⟨trivial, by rw [h1]; trivial⟩
 | it l p => obtain ⟨b, h1, _⟩ := h; simp only [Blk.gp, Conc]; exact ⟨b, h1, h1⟩
theorem A5i {n : Nat} {b : Blk} {v : Value} (h : Conc V ρ (b.gp n) v) : ρ n = v := by
 cases b <;> simp only [Blk.gp, Conc] at h
 · obtain ⟨b, h1, h2⟩ := h; rw [h1, h2]
 · exact h.1.symm
 · exact h.1.symm
 · obtain ⟨b, h1, h2⟩ := h; rw [h1, h2]
def shH (M : Nat) (H : List (Nat × Option Blk)) : List (Nat × Option Blk) := H.map fun p => (p.1 + M, p.2.map (Blk.rn (· + M)))
def ghs (B M : Nat) (H : List (Nat × Option Blk)) : List (Nat × SV) := H.map fun p => (B + p.1, match p.2 with
 | some b => b.gp (p.1 + M)
 | none => .dead)
theorem Aic (M k : Nat) : ∀ H : List (Nat × Option Blk), lk none k (shH M H) = if M ≤ k then (lk none (k - M) H).map (Blk.rn (· + M)) else none
 | [] => by simp [shH, lk]
 | (n, b) :: H => by
   have ih := Aic M k H;simp only [shH, List.map_cons, lk] at *;rw [ih];by_cases h : M ≤ k
   · simp only [h, if_true];by_cases e : k - M = n
     · rw [if_pos e, if_pos (by omega)]
     · rw [if_neg e, if_neg (by omega)]
   · simp only [h, if_false];rw [if_neg (by omega)]
theorem Aif (B M k : Nat) : ∀ H : List (Nat × Option Blk), lk .dead k (ghs B M H) = if B ≤ k then (match lk none (k - B) H with
 | some b => b.gp (k - B + M)
 | none => .dead) else .dead
 | [] => by simp [ghs, lk]
 | (n, b) :: H => by
   have ih := Aif B M k H;simp only [ghs, List.map_cons, lk] at *;rw [ih];by_cases h : B ≤ k
   · simp only [h, if_true];by_cases e : k - B = n
     · subst e;rw [if_pos rfl, if_pos (by omega)]
     · rw [if_neg e, if_neg (by omega)]
   · simp only [h, if_false];rw [if_neg (by omega)]
theorem Aie {α : Type} {d x : α} {k : Nat} : ∀ {l : List (Nat × α)}, lk d k l = x → x ≠ d → (k, x) ∈ l
 | [], h, hn => absurd h.symm hn
 | (j, y) :: l, h, hn => by
   simp only [lk] at h;split at h
   · rename_i e; subst e; subst h; exact List.mem_cons_self
   · exact List.mem_cons_of_mem _ (Aie h hn)
def S0 (M : Nat) (args : List SV) (H : List (Nat × Option Blk)) : FS := mk (C4 0 (SV.rnL (· + M) args) ++ ghs Eo M H) (shH M H)
def kof (nw : List (Nat × Nat)) (j : Nat) : Option Nat := lk none j (nw.map fun p => (p.2, some p.1))
structure Left (M : Nat) (H : List (Nat × Option Blk)) (Y : SV) (t : Nat → SV) (h1 : Nat → Option Blk) (al : List Nat) (fz : List (Nat × PV)) (nw : List (Nat × Nat)) (σ : Nat → Nat) : Prop where
 cover : ∀ n b, lk none n H = some b → n ∈ al ∨ ∃ p ∈ fz, p.1 = n
 alive : ∀ n ∈ al, ∃ b, lk none n H = some b ∧ t (Eo + n) = b.gp (n + M) ∧ σ (n + M) = n
 frozen : ∀ p ∈ fz, lk none p.1 H ≠ none ∧ t (Eo + p.1) = .pv p.2
 new : ∀ p ∈ nw, p.1 < M ∧ kof nw p.2 = some p.1 ∧ lk none p.2 H = none ∧ σ p.1 = p.2 ∧ (h1 p.1).isSome = true
 nY : ∀ k ∈ tn Y, k ∈ nw.map (·.1) ∨ ∃ n ∈ al, k = n + M
 nB : ∀ q b, (q ∈ nw.map (·.1) ∨ ∃ n ∈ al, q = n + M) → h1 q = some b → ∀ k ∈ tnB b, k ∈ nw.map (·.1) ∨ ∃ n ∈ al, k = n + M
def gOf (M : Nat) (nw : List (Nat × Nat)) (σ : Nat → Nat) (h1 : Nat → Option Blk) (q : Nat) : Option Blk := (match kof nw q with
 | some k => h1 k
 | none => h1 (q + M)).map (Blk.rn σ)
def uOf (M : Nat) (al : List Nat) (fz : List (Nat × PV)) (nw : List (Nat × Nat)) (σ : Nat → Nat) (h1 : Nat → Option Blk) : List HU :=
 Yy fz ++ (Aez (nw.map (·.2)) ++ Ad9 (gOf M nw σ h1) (nw.map (·.2) ++ al))
end Go.Proofs.YtannaphhhkncoaaGreat.Fw
namespace Go.Proofs.YtannaphhhkncoaaGreat.Fw
open Go.RowKit
variable {P : Program} {F : Fr} {N : Nat} {ρ ρ' : Nat → Value} {s : FS} {a : Act} {w w' : World} {V V' : View}
theorem Axn (f : Nat → Nat) (l : List SV) : (SV.rnL f l).length = l.length := by
 induction l with
 | nil => rfl
 | cons x l ih => simp only [SV.rnL, List.length_cons, ih]
theorem Z3 (hm : P.follows .mixedOrders = true) {f N' : Nat} {rs : List Rv} {c : C} (hf : Bf P f = some (N', rs, c)) {args : List SV} {H : List (Nat × Option Blk)} {M : Nat} {Y : SV} {h1 : Nat → Option Blk} {al : List Nat} {fz : List (Nat × PV)} {nw : List (Nat × Nat)} {σ : Nat → Nat} {t1 : Nat → SV} (hlen : args.length ≤ N')
 (hL : Left M H Y t1 h1 al fz nw σ)
 (hrun : ∀ F, sx (Z6 P F N') c (Yh rs fun y s => y = Y ∧ s.h = h1 ∧ ∀ k, Eo ≤ k → s.t k = t1 k) (S0 M args H)) (hR : RelR F N ρ s a w) (hh : ∀ n b, lk none n H = some b → s.h n = some b) {vs : List Value} (hc : ConcL (vw F w ρ s) ρ args vs) :
 Calls P f ⟨vs⟩ w fun e w' => ∃ v ρ', e = .returned v ∧ RelR F N ρ' (s.hup (uOf M al fz nw σ h1)) a w' ∧ Conc (vw F w' ρ' (s.hup (uOf M al fz nw σ h1))) ρ' (Y.rn σ) v := by
 have hvl := Lf hc
 let ρ0 : Nat → Value := fun n => ρ (n - M)
 have h0 : ∀ n, ρ0 (n + M) = ρ n := fun n => by simp only [ρ0, Nat.add_sub_cancel]
 let mi : Nat → Prop := fun b => ∃ n z, lk none n H = some z ∧ Cs (ρ n) = some b
 let ot : Nat → Prop := fun b => ∃ n z, s.h n = some z ∧ lk none n H = none ∧ Cs (ρ n) = some b
 have hmo : ∀ b, mi b → Ck ρ s.h b := fun b ⟨n, z, g1, g2⟩ => ⟨n, z, hh n z g1, g2⟩
 have hoo : ∀ b, ot b → Ck ρ s.h b := fun b ⟨n, z, g1, _, g2⟩ => ⟨n, z, g1, g2⟩
 have hmn : ∀ b, mi b → ¬ ot b := fun b ⟨n, z, g1, g2⟩ ⟨m, y, k1, k2, k3⟩ => by
  have := hR.inj n m z y b (hh n z g1) k1 g2 k3;rw [this, k2] at g1; cases g1
 have hown : ∀ b, Ck ρ s.h b → mi b ∨ ot b := fun b ⟨n, z, g1, g2⟩ => by
  cases e : lk none n H with
  | none => exact .inr ⟨n, z, g1, e, g2⟩
  | some y => exact .inl ⟨n, y, e, g2⟩
 let F' : Fr := ⟨w, mi, fun b => ot b ∨ F.hid b, fun k => ρ (k - Eo), []⟩
 have hS : ∀ k z, (S0 M args H).h k = some z → ∃ n y, k = n + M ∧ lk none n H = some y ∧ z = y.rn (· + M) := fun k z hz => by
  have hz' : lk none k (shH M H) = some z := hz;rw [Aic] at hz';split at hz'
  · rename_i hle;obtain ⟨y, h2, h3⟩ := Option.map_eq_some_iff.1 hz';exact ⟨k - M, y, by omega, h2, h3.symm⟩
  · cases hz'
 have how : ∀ b, Ck ρ0 (S0 M args H).h b ↔ mi b := fun b => by
  constructor
  · rintro ⟨k, z, h1, h2⟩;obtain ⟨n, y, rfl, h3, h4⟩ := hS k z h1;rw [h0] at h2;exact ⟨n, y, h3, h2⟩
  · rintro ⟨n, y, h1, h2⟩;refine ⟨n + M, y.rn (· + M), ?_, by rw [h0]; exact h2⟩;show lk none (n + M) (shH M H) = _;rw [Aic, if_pos (by omega), Nat.add_sub_cancel, h1]; rfl
 have hview : Az w (F'.out ρ0 (S0 M args H).h) = vw F w ρ s := by
  show Az w _ = Az w _;congr 1;funext b;refine propext ⟨fun hb => ?_, fun hb => ?_⟩
  · rcases hb with hb | hb | hb
    · exact .inl (hmo b ((how b).1 hb))
    · exact .inl (hoo b hb)
    · exact .inr hb
  · rcases hb with hb | hb
    · rcases hown b hb with hb | hb
      · exact .inl ((how b).2 hb)
      · exact .inr (.inl hb)
    · exact .inr (.inr hb)
 have hN := Rs hf;have hR0 : RelR F' N' ρ0 (S0 M args H) { tmps := (⟨vs⟩ : Array Value) ++ Array.replicate (N' - (⟨vs⟩ : Array Value).size) undef, defers := [] } w := by
  refine ⟨⟨rfl, rfl, rfl, Nat.le_refl _, fun _ _ _ => rfl, fun b hb => ?_, ⟨hR.tabW, fun p hp ho => hR.tabN hp (hmo _ ho)⟩⟩, fun b hb => .inr ((how b).1 hb), fun k z hz => ?_, fun k q x y b hk hq hbk hbq => ?_, fun k => ?_, by simp; omega, rfl⟩
  · rcases hb with hb | hb
    · exact ⟨hR.lt (hoo b hb), fun ho => hmn b ho hb⟩
    · exact ⟨Nat.lt_of_lt_of_le (hR.fr.hid b hb).1 hR.fr.size, fun ho => hR.shown (hmo b ho) hb⟩
  · obtain ⟨n, y, rfl, h3, rfl⟩ := hS k z hz;rw [hview];exact (hR.own n y (hh n y h3)).mapn (fun _ _ x => x) (h0 n) fun k _ => h0 k
  · obtain ⟨n, x', rfl, h3, rfl⟩ := hS k x hk;obtain ⟨m, y', rfl, h4, rfl⟩ := hS q y hq;rw [h0] at hbk hbq;rw [hR.inj n m x' y' b (hh n x' h3) (hh m y' h4) hbk hbq]
  · rw [hview];have hlR : (SV.rnL (· + M) args).length = args.length := Axn _ _;show Conc _ ρ0 (lk .dead k (C4 0 (SV.rnL (· + M) args) ++ ghs Eo M H)) _;unfold Fr.val;by_cases hb : k < Eo
    · rw [if_pos hb];have he : ((⟨vs⟩ : Array Value) ++ Array.replicate (N' - (⟨vs⟩ : Array Value).size) undef).getD k undef = (vs[k]?).getD undef := by
       rw [Array.getD_eq_getD_getElem?];by_cases hn : k < vs.length
       · rw [Array.getElem?_append_left (by simpa using hn)]; simp
       · rw [Array.getElem?_append_right (by simpa using hn)];rw [List.getElem?_eq_none (by omega)];simp only [Array.getElem?_replicate, Option.getD_none];split <;> rfl
      rw [he];have := Hq 0 k (hc.mapn (V' := vw F w ρ s) (ρ' := ρ0) (f := (· + M)) (fun _ _ x => x) fun n _ => h0 n);simp only [Nat.zero_le, if_true, Nat.sub_zero] at this;by_cases hn : k < args.length
      · rw [Aah _ k 0 _ (Nat.zero_le k) (by omega)]; exact this
      · rw [Tj _ k 0 _ fun i h1 h2 => by omega, Aif, if_neg (by omega)];simp only [Conc]
    · rw [if_neg hb, Tj _ k 0 _ fun i h1 h2 => by omega, Aif, if_pos (by omega)];cases hl : lk none (k - Eo) H with
      | none => simp only [Conc]
      | some b =>
        have ho := hR.own (k - Eo) b (hh _ _ hl);show Conc _ ρ0 (b.gp (k - Eo + M)) (ρ (k - Eo));have e : b.gp (k - Eo + M) = (b.gp (k - Eo)).rn (· + M) := (A93 (fun x => x + M) (k - Eo) b).symm;rw [e];exact Conc.mapn (V := vw F w ρ s) (ρ := ρ) (f := (· + M)) (fun _ _ x => x) (fun n _ => h0 n) (A3y ho)
 refine Calls.mono (Qf hm hf rfl hR0.fr (fun b hb => hR.lt (hmo b hb)) hR0 Wh (hrun F')) fun e w' he => ?_;obtain ⟨v, ρ', s', a', y, rfl, hR', hy, hyx, hsh', ht⟩ := he;subst hyx;have hgv : ∀ n, F'.val a' (Eo + n) = ρ n := fun n => by
  unfold Fr.val;rw [if_neg (show ¬ Eo + n < Eo by omega)];show ρ (Eo + n - Eo) = ρ n;rw [Nat.add_sub_cancel_left]
 have hg : ∀ n, Conc (vw F' w' ρ' s') ρ' (t1 (Eo + n)) (ρ n) := fun n => by
  have := hR'.tmps (Eo + n);rw [ht _ (by omega), hgv] at this;exact this
 have hal : ∀ n ∈ al, ρ' (n + M) = ρ n := fun n hn => by
  obtain ⟨b, k1, k2, _⟩ := hL.alive n hn;have h2 := hg n;rw [k2] at h2;exact A5i h2
 let R : Nat → Value := fun n => match kof nw n with
  | some k => ρ' k
  | none => ρ n
 let js := nw.map (·.2)
 have kmem : ∀ {j k}, kof nw j = some k → (k, j) ∈ nw := fun {j k} h => by
  have h := Aie h (by simp);obtain ⟨p, hp, e⟩ := List.mem_map.1 h;simp only [Prod.mk.injEq, Option.some.injEq] at e;obtain ⟨rfl, rfl⟩ := e;exact hp
 have hRn : ∀ n, n ∉ js → R n = ρ n := fun n hn => by
  simp only [R];cases e : kof nw n with
  | none => rfl
  | some k => exact absurd (List.mem_map.2 ⟨(k, n), kmem e, rfl⟩) hn
 have hdom : ∀ n b, lk none n H = some b → n ∉ js := fun n b hn hj => by
  obtain ⟨p, hp, rfl⟩ := List.mem_map.1 hj;rw [(hL.new p hp).2.2.1] at hn; cases hn
 let A : Nat → Prop := fun k => k ∈ nw.map (·.1) ∨ ∃ n ∈ al, k = n + M
 have hA : ∀ k, A k → R (σ k) = ρ' k := fun k hk => by
  rcases hk with hk | ⟨n, hn, rfl⟩
  · obtain ⟨p, hp, rfl⟩ := List.mem_map.1 hk;obtain ⟨_, k2, _, k4, _⟩ := hL.new p hp;rw [k4];simp only [R, k2]
  · obtain ⟨b, k1, _, k3⟩ := hL.alive n hn;rw [k3, hRn n (hdom n b k1), hal n hn]
 let U := uOf M al fz nw σ h1
 have hU : s.hup U = (((s.hup (Yy fz)).hup (Aez js)).hup (Ad9 (gOf M nw σ h1) (js ++ al))) := by
  simp only [U, uOf, Oy]; rfl
 let V1 := vw F' w' ρ' s'
 obtain ⟨f1, f2⟩ := Afq (w := w') (ρ := ρ) (V := V1) fz s;obtain ⟨n1, n2⟩ := Asj (w := w') (ρ := ρ) (V := V1) js (s.hup (Yy fz));obtain ⟨u1, u2⟩ := Ad8 (gOf M nw σ h1) (js ++ al) ((s.hup (Yy fz)).hup (Aez js));have hfz : ∀ p ∈ fz, PConc V1 p.2 (ρ p.1) := fun p hp => by
  have := hg p.1;rw [(hL.frozen p hp).2] at this;simpa only [Conc] using this
 have hh2 : ∀ q z, (s.hup U).h q = some z → (∃ k b, A k ∧ σ k = q ∧ s'.h k = some b ∧ z = b.rn σ) ∨ ∃ y, s.h q = some y ∧ lk none q H = none ∧ q ∉ js ∧ (Own w' V1 ρ q y → Own w' V1 R q z) := fun q z hz => by
  rw [hU, u2] at hz;split at hz
  · rename_i hq;refine .inl ?_;simp only [gOf] at hz;obtain ⟨b, hb, rfl⟩ := Option.map_eq_some_iff.1 hz;cases e : kof nw q with
    | some k =>
      rw [e] at hb;have := hL.new _ (kmem e);exact ⟨k, b, .inl (List.mem_map.2 ⟨_, kmem e, rfl⟩), this.2.2.2.1, by rw [hsh']; exact hb, rfl⟩
    | none =>
      rw [e] at hb;have hqa : q ∈ al := by
       rcases List.mem_append.1 hq with h | h
       · obtain ⟨p, hp, rfl⟩ := List.mem_map.1 h;rw [(hL.new p hp).2.1] at e; cases e
       · exact h
      obtain ⟨_, _, _, k3⟩ := hL.alive q hqa;exact ⟨q + M, b, .inr ⟨q, hqa, rfl⟩, k3, by rw [hsh']; exact hb, rfl⟩
  · rename_i hq;simp only [List.mem_append, not_or] at hq;rcases n1 q z hz with h | ⟨h, y, hy, ho⟩
    · exact absurd h hq.1
    · obtain ⟨y0, h3, h4, h5⟩ := f1 q y hy;refine .inr ⟨y0, h3, ?_, h, fun h6 => ho hRn (h5 hfz h6)⟩;cases e : lk none q H with
      | none => rfl
      | some z0 =>
        rcases hL.cover q z0 e with h5 | ⟨p, hp, h5⟩
        · exact absurd h5 hq.2
        · exact absurd h5 (h4 p hp)
 have hout : ∀ b, F.out R (s.hup U).h b → F'.out ρ' s'.h b := fun b hb => by
  rcases hb with ⟨q, z, k1, k2⟩ | hb
  · rcases hh2 q z k1 with ⟨k, b0, ha, rfl, k3, _⟩ | ⟨y, k3, k4, k5, _⟩
    · rw [hA k ha] at k2;exact .inl ⟨k, b0, k3, k2⟩
    · rw [hRn q k5] at k2;exact .inr (.inl ⟨q, y, k3, k4, k2⟩)
  · exact .inr (.inr hb)
 have hV2 : V1.le (Az w' (F.out R (s.hup U).h)) := Bi fun b c ho hc => ⟨fun hb => ho (hout b hb), hc⟩
 have hkeep : ∀ b, b < w.heap.size → ¬ mi b → w'.heap[b]? = w.heap[b]? := fun b hb hn => hR'.fr.block b hb hn;have hV0 : (vw F w ρ s).le V1 := Bi fun b c ho hc => by
  have hlt := Hm hc;refine ⟨fun hb => ?_, by rw [C3 (hkeep b hlt fun h => ho (.inl (hmo b h)))]; exact hc⟩;rcases hb with hb | hb | hb
  · rcases hR'.may b hb with h1 | h1
    · have : w.heap.size ≤ b := h1;omega
    · exact ho (.inl (hmo b h1))
  · exact ho (.inl (hoo b hb))
  · exact ho (.inr hb)
 refine ⟨v, R, rfl, ⟨⟨hR'.fr.os.trans hR.fr.os, hR'.fr.tape.trans hR.fr.tape, hR'.fr.output.trans hR.fr.output, Nat.le_trans hR.fr.size hR'.fr.size, fun b hlt hM => ?_, hR.fr.hid, hR.fr.tab⟩, fun b hb => ?_, fun q z hz => ?_, fun q k z z' b hq hk hbq hbk => ?_, fun k => ?_, hR.size, hR.defers⟩, hy.mapn hV2 fun k hk => hA k (hL.nY k hk)⟩
 · rw [hkeep b (Nat.lt_of_lt_of_le hlt hR.fr.size) fun ho => ?_]
   · exact hR.fr.block b hlt hM
   · rcases hR.may b (hmo b ho) with h1 | h1
     · omega
     · exact hM h1
 · obtain ⟨q, z, k1, k2⟩ := hb;rcases hh2 q z k1 with ⟨k, b0, ha, rfl, k3, _⟩ | ⟨y, k3, k4, k5, _⟩
   · rw [hA k ha] at k2;rcases hR'.may b ⟨k, b0, k3, k2⟩ with h1 | h1
     · exact .inl (Nat.le_trans hR.fr.size h1)
     · exact hR.may b (hmo b h1)
   · rw [hRn q k5] at k2;exact hR.may b ⟨q, y, k3, k2⟩
 · rcases hh2 q z hz with ⟨k, b0, ha, rfl, k3, rfl⟩ | ⟨y, k3, k4, k5, k6⟩
   · exact (hR'.own k b0 k3).mapn hV2 (hA k ha) fun m hm => hA m (hL.nB k b0 ha (by rw [← hsh']; exact k3) m hm)
   · have ho := hR.own q y k3;refine (k6 (ho.congr hV0 fun b hb => hkeep b (ho.lt hb) fun hmi => hmn b hmi ⟨q, y, k3, k4, hb⟩)).congr hV2 fun b _ => rfl
 · have low : ∀ (k : Nat) (b0 : Blk) (q : Nat) (y : Blk), s'.h k = some b0 → Cs (ρ' k) = some b → s.h q = some y → lk none q H = none → Cs (ρ q) = some b → False := fun k b0 q y g1 g2 g3 g4 g5 => by
    have ho := hR.own q y g3;rcases hR'.may b ⟨k, b0, g1, g2⟩ with h1 | h1
    · have := ho.lt g5;have : w.heap.size ≤ b := h1;omega
    · exact hmn b h1 ⟨q, y, g3, g4, g5⟩
   rcases hh2 q z hq with ⟨k1, b1, ha1, rfl, g1, _⟩ | ⟨y1, g1, g2, g3, _⟩ <;> rcases hh2 k z' hk with ⟨k2, b2, ha2, rfl, g4, _⟩ | ⟨y2, g4, g5, g6, _⟩
   · rw [hA k1 ha1] at hbq;rw [hA k2 ha2] at hbk;rw [hR'.inj k1 k2 b1 b2 b g1 g4 hbq hbk]
   · rw [hA k1 ha1] at hbq;rw [hRn k g6] at hbk;exact (low k1 b1 k y2 g1 hbq g4 g5 hbk).elim
   · rw [hA k2 ha2] at hbk;rw [hRn q g3] at hbq;exact (low k2 b2 q y1 g4 hbk g1 g2 hbq).elim
   · rw [hRn q g3] at hbq;rw [hRn k g6] at hbk;exact hR.inj q k y1 y2 b g1 g4 hbq hbk
 · have hk1 : Conc V1 ρ ((s.hup (Yy fz)).t k) (F.val a k) := f2 hfz ((hR.tmps k).mono hV0);have hk2 := n2 (R := R) hRn hk1;have e : (s.hup U).t k = ((s.hup (Yy fz)).hup (Aez js)).t k := by rw [hU, u1]
   show Conc _ R ((s.hup U).t k) _;rw [e];exact hk2.mono hV2
end Go.Proofs.YtannaphhhkncoaaGreat.Fw
namespace Go.Proofs.YtannaphhhkncoaaGreat.Fw
open Go.RowKit
variable {P : Program} {F : Fr} {N : Nat} {ρ ρ' : Nat → Value} {s : FS} {a : Act} {w w' : World} {V V' : View}
structure ES where
 t : List (Nat × SV)
 h : List (Nat × Option Blk)
def ES.fs (s : ES) : FS := Fw.mk s.t s.h
def Xf {α : Type} (n : Nat) (x : α) : List (Nat × α) → List (Nat × α)
 | [] => [(n, x)]
 | (m, y) :: l => if n = m then (n, x) :: l else (m, y) :: Xf n x l
theorem Ma {α : Type} (d x : α) (n k : Nat) : ∀ l : List (Nat × α), lk d k (Xf n x l) = if k = n then x else lk d k l
 | [] => by simp only [Xf, lk]
 | (m, y) :: l => by
   simp only [Xf];by_cases e : n = m
   · subst e;simp only [if_true, lk];split <;> rfl
   · simp only [if_neg e, lk, Ma d x n k l];by_cases h : k = m
     · subst h; rw [if_pos rfl, if_neg (Ne.symm e), if_pos rfl]
     · rw [if_neg h, if_neg h]
theorem A5m (s : ES) (d : Nat) (x : SV) : ES.fs ⟨Xf d x s.t, s.h⟩ = s.fs.set d x := by
 simp only [ES.fs, mk, FS.set, FS.mk.injEq]
 first | exact ⟨funext fun n => Ma _ _ _ _ _, trivial⟩ | exact funext fun n => Ma _ _ _ _ _ | exact ⟨funext fun n => Ma _ _ _ _ _, rfl⟩
theorem Acj (s : ES) (n : Nat) (b : Option Blk) : ES.fs ⟨s.t, Xf n b s.h⟩ = s.fs.seth n b := by
 simp only [ES.fs, mk, FS.seth, FS.mk.injEq]
 first | exact ⟨trivial, funext fun n => Ma _ _ _ _ _⟩ | exact ⟨rfl, funext fun n => Ma _ _ _ _ _⟩ | exact funext fun n => Ma _ _ _ _ _
def Ale (n : Nat) (s : ES) : ES := ⟨K4 n s.t, H0 n s.h⟩
theorem Alj (n : Nat) (s : ES) : (Ale n s).fs = s.fs.kill n := (Rf _ _ _).symm
def A5n (n : Nat) (v : PV) (s : ES) : ES := ⟨Yz n v s.t, Ml n v s.h⟩
theorem At3 (n : Nat) (v : PV) (s : ES) : (A5n n v s).fs = s.fs.frz n v := (Aiw _ _ _ _).symm
def Anx : List HU → ES → Option ES
 | [], s => some s
 | .new n b :: u, s => Anx u ⟨K4 n s.t, Xf n (some b) (H0 n s.h)⟩
 | .upd n b :: u, s => Anx u ⟨s.t, Xf n (some b) s.h⟩
 | .del n :: u, s => Anx u ⟨s.t, Xf n none s.h⟩
 | .frz n v :: u, s => Anx u (A5n n v s)
 | .set _ _ :: _, _ => none
theorem Oz : ∀ {u : List HU} {s s' : ES}, Anx u s = some s' → s'.fs = s.fs.hup u
 | [], s, s', h => by cases h; rfl
 | .new n b :: u, s, s', h => by
   rw [Oz (u := u) h];show FS.hup (ES.fs ⟨(Ale n s).t, Xf n (some b) (Ale n s).h⟩) u = _;rw [Acj, Alj]; rfl
 | .upd n b :: u, s, s', h => by rw [Oz (u := u) h, Acj]; rfl
 | .del n :: u, s, s', h => by rw [Oz (u := u) h, Acj]; rfl
 | .frz n v :: u, s, s', h => by rw [Oz (u := u) h, At3]; rfl
 | .set _ _ :: _, _, _, h => by cases h
abbrev HL := List (Nat × Option Blk)
abbrev Vn := Nat → Nat → List SV → HL → M9
def Aoo (cal : Vn) (k : Kd) (x : List Opd) (d : Nat) (s : ES) : M9 := match k with
 | .call f => cal d f (Bu s.fs x) s.h
 | .callv => match Bu s.fs x with
   | .fn (.func f) cap :: as => cal d f (as ++ cap) s.h
   | _ => none
 | .yv => match Bu s.fs x with
   | .fn (.func f) cap :: as => cal d f (as ++ cap) s.h
   | _ => none
 | k => opC d s.fs.h k (Bu s.fs x)
def evI (cal : Vn) (i : I) (s : ES) : M9 := match i.g with
 | none => Aoo cal i.k i.x (i.d.getD 0) s
 | some (j, w) => match s.fs.t j with
   | .pv (.b p) => if p = w then Aoo cal i.k i.x (i.d.getD 0) s else some (.tup [], [])
   | .tup [] => some (.tup [], [])
   | _ => none
def apE (d : Option Nat) (x : SV) (u : List HU) (s : ES) : Option ES := (Anx u s).map fun s => match d with
 | some d => ⟨Xf d x s.t, s.h⟩
 | none => s
theorem Ajk {d : Option Nat} {x : SV} {u : List HU} {s s' : ES} (h : apE d x u s = some s') : s'.fs = s.fs.apply d x u := by
 obtain ⟨s1, h1, rfl⟩ := Option.map_eq_some_iff.1 h;cases d with
 | none => exact Oz h1
 | some d => simp only [FS.apply, A5m, Oz h1]
def evO (cal : Vn) : List I → ES → Option ES
 | [], s => some s
 | i :: l, s => match evI cal i s with
   | some (x, u) => match apE i.d x u s with
     | some s1 => evO cal l s1
     | none => none
   | none => none
def Yj (E : Env) (cal : Vn) : Prop := ∀ d f args H x u, cal d f args H = some (x, u) → E.call f args (fun n => lk none n H) d x u ∨ E.deep f args (fun n => lk none n H) d x u
theorem All {E : Env} {cal : Vn} (hE : Yj E cal) {k x d s y u} (h : Aoo cal k x d s = some (y, u)) {K : KK} (hk : K y u) : body E k x d s.fs K := by
 cases k
 case call f => exact ⟨y, u, hE _ _ _ _ _ _ h, hk⟩
 case callv =>
  simp only [Aoo] at h;show Jj E (Bu s.fs x) s.fs.h d K;split at h
  · rename_i f cap as e; rw [e]; exact ⟨y, u, hE _ _ _ _ _ _ h, hk⟩
  · cases h
 case yv =>
  simp only [Aoo] at h;show yvK E (Bu s.fs x) s.fs d K;split at h
  · rename_i f cap as e; rw [e]; exact ⟨y, u, hE _ _ _ _ _ _ h, hk⟩
  · cases h
 all_goals (simp only [Aoo] at h; simp only [body]; exact A30 h hk)
theorem Aiz {E : Env} {cal : Vn} (hE : Yj E cal) {i s y u} (h : evI cal i s = some (y, u)) {K : KK} (hk : K y u) : opS E i s.fs K := by
 unfold evI at h;unfold opS;split at h
 · rename_i e; simp only [e]; exact All hE h hk
 · rename_i j w e;simp only [e];split at h
   · rename_i p hp;simp only [hp, Eg];split at h
     · rename_i e2; rw [if_pos e2]; exact All hE h hk
     · rename_i e2; rw [if_neg e2]; cases h; exact hk
   · rename_i hp; simp only [hp, Eg]; cases h; exact hk
   · cases h
theorem Auc {E : Env} {cal : Vn} (hE : Yj E cal) {Q : Ch} : ∀ {l : List I} {s s' : ES}, evO cal l s = some s' → Q .normal s'.fs → sxL E l Q s.fs
 | [], s, s', h, hq => by cases h; exact hq
 | i :: l, s, s', h, hq => by
   simp only [evO] at h;split at h
   · rename_i x u h1;split at h
     · rename_i s1 h2;exact Aiz hE h1 (by rw [← Ajk h2]; exact Auc hE h hq)
     · cases h
   · cases h
def Abz (d : Nat) (T D : List Nat) : Bool := D.all fun e => e == d || !T.contains e
mutual
theorem Ab9 {n : Nat} : ∀ {x : SV}, n ∉ tn x → x.kill n = x
 | .pv _, _ => by simp only [SV.kill]
 | .vec _ _, _ => by simp only [SV.kill]
 | .agg l, h => by simp only [SV.kill, tn] at *; rw [Rh h]
 | .tup l, h => by simp only [SV.kill, tn] at *; rw [Rh h]
 | .p m o, h => by simp only [SV.kill, tn, List.mem_singleton] at *; rw [if_neg h]
 | .ps m o, h => by simp only [SV.kill, tn, List.mem_singleton] at *; rw [if_neg h]
 | .pr m z i o, h => by simp only [SV.kill, tn, List.mem_singleton] at *; rw [if_neg h]
 | .pi _ _ _ _, _ => by simp only [SV.kill]
 | .os m, h => by simp only [SV.kill, tn, List.mem_singleton] at *; rw [if_neg h]
 | .ov m z a b, h => by simp only [SV.kill, tn, List.mem_singleton] at *; rw [if_neg h]
 | .fn f l, h => by simp only [SV.kill, tn] at *; rw [Rh h]
 | .dead, _ => by simp only [SV.kill]
theorem Rh {n : Nat} : ∀ {l : List SV}, n ∉ Bd l → SV.killL n l = l
 | [], _ => by simp only [SV.killL]
 | x :: l, h => by
   simp only [Bd, List.mem_append, not_or] at h;simp only [SV.killL, Ab9 h.1, Rh h.2]
end
theorem Aby {d : Nat} {x : SV} : ∀ {D : List Nat}, Abz d (tn x) D = true → noD d x D
 | [], _ => trivial
 | e :: D, h => by
   simp only [Abz, List.all_cons, Bool.and_eq_true] at h;refine ⟨?_, Aby h.2⟩;split
   · trivial
   · rename_i e1;have := h.1;simp only [Bool.or_eq_true, beq_iff_eq, e1, false_or, Bool.not_eq_true', List.contains_eq_mem, decide_eq_false_iff_not] at this;exact Ab9 this
theorem Ky {d : Nat} {b : Blk} : ∀ {D : List Nat}, Abz d (tnB b) D = true → Ph d b D
 | [], _ => trivial
 | e :: D, h => by
   simp only [Abz, List.all_cons, Bool.and_eq_true] at h;refine ⟨?_, Ky h.2⟩;split
   · trivial
   · rename_i e1;have := h.1;simp only [Bool.or_eq_true, beq_iff_eq, e1, false_or, Bool.not_eq_true', List.contains_eq_mem, decide_eq_false_iff_not] at this;cases b with
     | var x => simp only [Blk.kill, Ab9 this]
     | row _ _ => rfl
     | rowc _ _ _ => rfl
     | it _ _ => rfl
def duB (fz : Bool) (D : List Nat) (d : Nat) : List HU → Bool
 | [] => true
 | .new n b :: u => n == d && D.contains n && Abz d (tnB b) D && duB fz D d u
 | .upd _ b :: u => Abz d (tnB b) D && duB fz D d u
 | .del _ :: u => duB fz D d u
 | .frz _ _ :: u => fz && duB fz D d u
 | .set _ _ :: _ => false
theorem Xo {D : List Nat} {d : Nat} : ∀ {u : List HU}, duB false D d u = true → Ee D d u
 | [], _ => trivial
 | .new n b :: u, h => by
   simp only [duB, Bool.and_eq_true, beq_iff_eq, List.contains_eq_mem, decide_eq_true_eq] at h;exact ⟨h.1.1.1, h.1.1.2, Ky h.1.2, Xo h.2⟩
 | .upd n b :: u, h => by
   simp only [duB, Bool.and_eq_true] at h;exact ⟨Ky h.1, Xo h.2⟩
 | .del n :: u, h => Xo (u := u) h
 | .frz _ _ :: _, h => by simp [duB] at h
 | .set _ _ :: _, h => by simp [duB] at h
theorem Rw {D : List Nat} {d : Nat} : ∀ {u : List HU}, duB true D d u = true → Ds D d u
 | [], _ => trivial
 | .new n b :: u, h => by
   simp only [duB, Bool.and_eq_true, beq_iff_eq, List.contains_eq_mem, decide_eq_true_eq] at h;exact ⟨h.1.1.1, h.1.1.2, Ky h.1.2, Rw h.2⟩
 | .upd n b :: u, h => by
   simp only [duB, Bool.and_eq_true] at h;exact ⟨Ky h.1, Rw h.2⟩
 | .del n :: u, h => Rw (u := u) h
 | .frz _ _ :: u, h => Rw (u := u) (by simpa [duB] using h)
 | .set _ _ :: _, h => by simp [duB] at h
def quB (D : List Nat) (d : Nat) : List HU → Bool
 | [] => true
 | [.new n b] => n == d && D.contains n && Abz d (tnB b) D
 | _ => false
theorem Arf {D : List Nat} {d : Nat} {u : List HU} (h : quB D d u = true) : Hf D d u := by
 unfold quB at h;split at h
 · trivial
 · simp only [Bool.and_eq_true, beq_iff_eq, List.contains_eq_mem, decide_eq_true_eq] at h;exact ⟨h.1.1, h.1.2, Ky h.2⟩
 · cases h
def A4d (D : List Nat) (c d : Nat) (x : SV) (u : List HU) : Bool := Abz d (tn x) D && match c with
 | 0 => u.isEmpty
 | 1 => quB D d u
 | 2 => duB false D d u
 | _ => duB true D d u
theorem Ax6 {D : List Nat} {c d : Nat} {x : SV} {u : List HU} (h : A4d D c d x u = true) : okA D c d x u := by
 simp only [A4d, Bool.and_eq_true] at h;refine ⟨Aby h.1, ?_⟩;have h2 := h.2;split
 · simpa using h2
 · exact Arf h2
 · exact Xo h2
 · split at h2
   · rename_i k _ _; exact absurd rfl k
   · rename_i k _; exact absurd rfl k
   · rename_i k; exact absurd rfl k
   · exact Rw h2
def Aiy (cal : Vn) : List (I × Nat × List Nat) → ES → Option ES
 | [], s => some s
 | i :: l, s => match evI cal i.1 s with
   | some (x, u) => if A4d i.2.2 i.2.1 (i.1.d.getD 1000000000) x u = true then match apE i.1.d x u s with
     | some s1 => Aiy cal l s1
     | none => none
     else none
   | none => none
theorem Acp {E : Env} {cal : Vn} (hE : Yj E cal) {Q : Ch} : ∀ {l : List (I × Nat × List Nat)} {s s' : ES}, Aiy cal l s = some s' → Q .normal s'.fs → sxA E l Q s.fs
 | [], s, s', h, hq => by cases h; exact hq
 | i :: l, s, s', h, hq => by
   simp only [Aiy] at h;split at h
   · rename_i x u h1;split at h
     · rename_i h3;split at h
       · rename_i s1 h2;exact Aiz hE h1 ⟨Ax6 h3, by rw [← Ajk h2]; exact Acp hE h hq⟩
       · cases h
     · cases h
   · cases h
def Mg : List Nat → ES → ES
 | [], s => s
 | d :: D, s => Mg D (Ale d s)
theorem Rp : ∀ (D : List Nat) (s : ES), (Mg D s).fs = killD D s.fs
 | [], s => rfl
 | d :: D, s => by simp only [Mg, killD, Rp D, Alj]
def Yn (T : List Nat) : List HU → Bool
 | [] => true
 | .new n _ :: u => T.contains n && Yn T u
 | .upd n _ :: u => T.contains n && Yn T u
 | .del n :: u => T.contains n && Yn T u
 | _ :: _ => false
theorem Acg {n : Nat} : ∀ {T : List Nat}, n ∈ T → inT n T
 | [], h => by cases h
 | m :: T, h => by
   simp only [inT];split
   · trivial
   · rename_i e;rcases List.mem_cons.1 h with h | h
     · exact absurd h e
     · exact Acg h
theorem Ut {T : List Nat} : ∀ {u : List HU}, Yn T u = true → Hb T u
 | [], _ => trivial
 | .new n _ :: u, h => by simp only [Yn, Bool.and_eq_true, List.contains_eq_mem, decide_eq_true_eq] at h; exact ⟨Acg h.1, Ut h.2⟩
 | .upd n _ :: u, h => by simp only [Yn, Bool.and_eq_true, List.contains_eq_mem, decide_eq_true_eq] at h; exact ⟨Acg h.1, Ut h.2⟩
 | .del n :: u, h => by simp only [Yn, Bool.and_eq_true, List.contains_eq_mem, decide_eq_true_eq] at h; exact ⟨Acg h.1, Ut h.2⟩
 | .frz _ _ :: _, h => by simp [Yn] at h
 | .set _ _ :: _, h => by simp [Yn] at h
theorem Akn {n : Nat} : ∀ {T : List Nat}, n ∉ T → Yu n T
 | [], _ => trivial
 | m :: T, h => by
   simp only [List.mem_cons, not_or] at h;simp only [Yu, if_neg h.1];exact Akn h.2
theorem Af7 {T : List Nat} : ∀ {S : List Nat}, S.all (fun n => !T.contains n) = true → Rx S T
 | [], _ => trivial
 | n :: S, h => by
   simp only [List.all_cons, Bool.and_eq_true, Bool.not_eq_true', List.contains_eq_mem, decide_eq_false_iff_not] at h;exact ⟨Akn h.1, Af7 (by simpa using h.2)⟩
theorem Akd {acc : List (Nat × List Nat)} {T : List Nat} : ∀ {ps : List Nat}, ps.all (fun k => (lk [] k acc).all fun n => !T.contains n) = true → Yr acc ps T
 | [], _ => trivial
 | k :: ps, h => by
   simp only [List.all_cons, Bool.and_eq_true] at h;exact ⟨Af7 h.1, Akd h.2⟩
def A36 (D : List Nat) (c d : Nat) (x : SV) (u : List HU) (T : List Nat) : Bool := Abz d (tn x) D && match c with
 | 0 => u.isEmpty
 | 1 => quB D d u
 | _ => duB false D d u && Yn T u
theorem Ax0 {D : List Nat} {c d : Nat} {x : SV} {u : List HU} {T : List Nat} (h : A36 D c d x u T = true) : okP D c d x u T := by
 simp only [A36, Bool.and_eq_true] at h;refine ⟨Aby h.1, ?_⟩;have h2 := h.2;split
 · simpa using h2
 · exact Arf h2
 · split at h2
   · rename_i k _; exact absurd rfl k
   · rename_i k; exact absurd rfl k
   · simp only [Bool.and_eq_true] at h2; exact ⟨Xo h2.1, Ut h2.2⟩
def evP (cal : Vn) : List (I × Nat × List Nat × List Nat × Nat) → List (Nat × List Nat) → ES → Option ES
 | [], _, s => some s
 | i :: l, acc, s => match evI cal i.1 s with
   | some (x, u) => if (A36 i.2.2.1 i.2.1 (i.1.d.getD 1000000000) x u (N5 s.fs i.1) && i.2.2.2.1.all (fun k => (lk [] k acc).all fun n => !(N5 s.fs i.1).contains n)) = true then match apE i.1.d x u s with
     | some s1 => evP cal l (Ac7 i.2.1 i.2.2.2.2 (N5 s.fs i.1) acc) s1
     | none => none
     else none
   | none => none
theorem Aub {E : Env} {cal : Vn} (hE : Yj E cal) {Q : Ch} : ∀ {l : List (I × Nat × List Nat × List Nat × Nat)} {acc : List (Nat × List Nat)} {s s' : ES}, evP cal l acc s = some s' → Q .normal s'.fs → sxP E l acc Q s.fs
 | [], acc, s, s', h, hq => by cases h; exact hq
 | i :: l, acc, s, s', h, hq => by
   simp only [evP] at h;split at h
   · rename_i x u h1;split at h
     · rename_i h3;simp only [Bool.and_eq_true] at h3;split at h
       · rename_i s1 h2;exact Aiz hE h1 ⟨Ax0 h3.1, Akd h3.2, by rw [← Ajk h2]; exact Aub hE h hq⟩
       · cases h
     · cases h
   · cases h
end Go.Proofs.YtannaphhhkncoaaGreat.Fw
namespace Go.Proofs.YtannaphhhkncoaaGreat.Fw
open Go.RowKit
variable {P : Program} {F : Fr} {N : Nat} {ρ ρ' : Nat → Value} {s : FS} {a : Act} {w w' : World} {V V' : View}
def Bcw : PV → Bool
 | .i _ _ => true
 | _ => false
mutual
def SV.expl : SV → SV
 | .vec n cs => if cs.all Bcw = true then .vec n cs else .agg (cs.map .pv)
 | .agg l => .agg (SV.explL l)
 | x => x
def SV.explL : List SV → List SV
 | [] => []
 | x :: l => x.expl :: SV.explL l
end
theorem Aj6 : ∀ l : List PV, Bd (l.map .pv) = []
 | [] => rfl
 | x :: l => by simp only [List.map_cons, Bd, tn, Aj6 l, List.append_nil]
mutual
theorem Awl : ∀ x : SV, tn x.expl = tn x
 | .vec n cs => by
   simp only [SV.expl];split
   · rfl
   · simp only [tn, Aj6]
 | .agg l => by simp only [SV.expl, tn]; exact Sc l
 | .pv _ => rfl
 | .tup _ => rfl
 | .p _ _ => rfl
 | .ps _ _ => rfl
 | .pr _ _ _ _ => rfl
 | .pi _ _ _ _ => rfl
 | .os _ => rfl
 | .ov _ _ _ _ => rfl
 | .fn _ _ => rfl
 | .dead => rfl
theorem Sc : ∀ l : List SV, Bd (SV.explL l) = Bd l
 | [] => rfl
 | x :: l => by simp only [SV.explL, Bd, Awl x, Sc l]
end
theorem Agc : ∀ {cs : List PV} {vs : List Value}, PCells V cs vs → Cells V ρ (cs.map .pv) vs
 | [], vs, h => by
   have := h.1;simp only [List.length_nil] at this;simp only [List.map_nil, Cells];exact List.eq_nil_of_length_eq_zero this.symm
 | x :: cs, vs, h => by
   cases vs with
   | nil => simp [PCells] at h
   | cons v vs =>
     obtain ⟨v', h1, h2⟩ := h.2 0 x rfl;cases h1;have ho := h2.one;simp only [List.map_cons, Cells];have ef : Ay v = [v] := by cases v <;> simp_all [A8, Ay]
     refine ⟨v, vs, by rw [ef]; rfl, by simp only [Conc]; exact h2, by rw [ef]; rfl, by rw [ef]; simpa using ho, Agc ⟨by have := h.1; simpa using this, fun j y hy => h.2 (j + 1) y hy⟩⟩
theorem Sb : ∀ l : List PV, SV.widthL (l.map .pv) = l.length
 | [] => rfl
 | x :: l => by simp only [List.map_cons, SV.widthL, SV.width, Sb l, List.length_cons]; omega
mutual
theorem Conc.expl : ∀ {x : SV} {v : Value}, Conc V ρ x v → Conc V ρ x.expl v
 | .vec n cs, v, h => by
   simp only [SV.expl];split
   · exact h
   · simp only [Conc] at h ⊢;obtain ⟨vs, rfl, _, h2⟩ := h;exact ⟨vs, rfl, Agc h2⟩
 | .agg l, v, h => by
   simp only [SV.expl, Conc] at h ⊢;obtain ⟨vs, rfl, h1⟩ := h;exact ⟨vs, rfl, Cells.expl h1⟩
 | .pv _, v, h => h
 | .tup _, v, h => h
 | .p _ _, v, h => h
 | .ps _ _, v, h => h
 | .pr _ _ _ _, v, h => h
 | .pi _ _ _ _, v, h => h
 | .os _, v, h => h
 | .ov _ _ _ _, v, h => h
 | .fn _ _, v, h => h
 | .dead, v, h => h
theorem Cells.expl : ∀ {l : List SV} {vs : List Value}, Cells V ρ l vs → Cells V ρ (SV.explL l) vs
 | [], vs, h => h
 | x :: l, vs, h => by
   simp only [SV.explL, Cells] at h ⊢;obtain ⟨u, us, rfl, h1, h2, h3, h4⟩ := h;refine ⟨u, us, rfl, Conc.expl h1, ?_, h3, Cells.expl h4⟩;rw [h2];cases x with
   | vec n cs =>
     simp only [SV.expl];split
     · rfl
     · simp only [Conc] at h1;obtain ⟨vs, rfl, e1, e2⟩ := h1;simp only [SV.width, Sb];have := e2.1;omega
   | agg l => simp only [SV.expl, SV.width]; exact (Nc h1).symm
   | _ => rfl
theorem Nc : ∀ {l : List SV} {v : Value}, Conc V ρ (.agg l) v → SV.widthL (SV.explL l) = SV.widthL l
 | [], v, h => rfl
 | x :: l, v, h => by
   simp only [Conc, Cells] at h;obtain ⟨_, rfl, u, us, rfl, h1, h2, h3, h4⟩ := h;have ih := Nc (l := l) (v := .agg ⟨us⟩) (by simp only [Conc]; exact ⟨us, rfl, h4⟩);simp only [SV.explL, SV.widthL, ih];congr 1;cases x with
   | vec n cs =>
     simp only [SV.expl];split
     · rfl
     · simp only [Conc] at h1;obtain ⟨vs, rfl, e1, e2⟩ := h1;simp only [SV.width, Sb];have := e2.1;omega
   | agg l' => simp only [SV.expl, SV.width]; exact Nc h1
   | _ => rfl
end
theorem ConcL.expl : ∀ {l : List SV} {vs : List Value}, ConcL V ρ l vs → ConcL V ρ (SV.explL l) vs
 | [], vs, h => h
 | x :: l, vs, h => by
   simp only [SV.explL, ConcL] at h ⊢;obtain ⟨u, us, rfl, h1, h2⟩ := h;exact ⟨u, us, rfl, h1.expl, h2.expl⟩
theorem FunOk.expl {f : Nat} {args : List SV} {h d x u} (hf : FunOk P f (SV.explL args) h d x u) : FunOk P f args h d x u :=
 ⟨hf.1, fun F N ρ s a w hR hh vs hv => hf.2 F N ρ s a w hR (by rw [Sc]; exact hh) vs hv.expl⟩
theorem DeepOk.expl {f : Nat} {args : List SV} {h d x u} (hf : DeepOk P f (SV.explL args) h d x u) : DeepOk P f args h d x u :=
 ⟨hf.1, fun F N ρ s a w hR hh vs hv => hf.2 F N ρ s a w hR hh vs hv.expl⟩
theorem DeepOk.fz {f : Nat} {args : List SV} {H : HL} {d : Nat} {x : SV} {u : List HU} {n sz : Nat} {es : List (List PV)} (hn : lk none n H = some (.row sz es))
 (hf : DeepOk P f (SV.frzL n (.sl false sz es) args) (fun k => lk none k (Ml n (.sl false sz es) H)) d x u) : DeepOk P f args (fun k => lk none k H) d x (.frz n (.sl false sz es) :: u) := by
 refine ⟨hf.1, fun F N ρ s a w hR hh vs hv => ?_⟩;have hs : s.h n = some (.row sz es) := by rw [hh]; exact hn
 obtain ⟨hR', hV, hV2⟩ := hR.frz hs;exact hf.2 F N ρ (s.frz n (.sl false sz es)) a w hR' (by
  funext k;rw [Rb];simp only [FS.frz, hh]) vs (ConcL.frz hV ((Lu hR hs).mono hV2) hv)
def Acl (H : HL) : List Nat → List SV → List SV
 | [], l => l
 | n :: ns, l => match lk none n H with
   | some (.row sz es) => Acl H ns (SV.frzL n (.sl false sz es) l)
   | _ => Acl H ns l
theorem Tc {H : HL} : ∀ {ns : List Nat} {l : List SV} {vs : List Value}, (∀ n ∈ ns, ∀ sz es, lk none n H = some (.row sz es) → PConc V (.sl false sz es) (ρ n)) → ConcL V ρ l vs → ConcL V ρ (Acl H ns l) vs
 | [], l, vs, _, h => h
 | n :: ns, l, vs, hp, h => by
   simp only [Acl];split
   · rename_i sz es e;exact Tc (fun m hm => hp m (List.mem_cons_of_mem _ hm)) (ConcL.frz (fun _ _ x => x) (hp n List.mem_cons_self sz es e) h)
   · exact Tc (fun m hm => hp m (List.mem_cons_of_mem _ hm)) h
mutual
theorem Aox : ∀ {x : SV}, x.closed = true → tn x = []
 | .pv _, _ => rfl
 | .vec _ _, _ => rfl
 | .pi _ _ _ _, _ => rfl
 | .dead, _ => rfl
 | .agg l, h => by simp only [SV.closed] at h; simp only [tn, H4 h]
 | .tup l, h => by simp only [SV.closed] at h; simp only [tn, H4 h]
 | .fn f l, h => by simp only [SV.closed] at h; simp only [tn, H4 h]
 | .p _ _, h => by simp [SV.closed] at h
 | .ps _ _, h => by simp [SV.closed] at h
 | .pr _ _ _ _, h => by simp [SV.closed] at h
 | .os _, h => by simp [SV.closed] at h
 | .ov _ _ _ _, h => by simp [SV.closed] at h
theorem H4 : ∀ {l : List SV}, SV.closedL l = true → Bd l = []
 | [], _ => rfl
 | x :: l, h => by
   simp only [SV.closedL, Bool.and_eq_true] at h;simp only [Bd, Aox h.1, H4 h.2, List.append_nil]
end
theorem FunOk.lends {f : Nat} {args : List SV} {H : HL} {h' : Nat → Option Blk} {d d' : Nat} {x : SV} {ns : List Nat} (hin : ∀ n ∈ ns, n ∈ Bd args)
 (hc : SV.closedL (Acl H ns args) = true) (hx : x.scalar = true) (hf : FunOk P f (Acl H ns args) h' d' x []) : FunOk P f args (fun n => lk none n H) d x [] := by
 refine ⟨hf.1, fun F N ρ s a w hR hh vs hv => ?_⟩
 let F2 : Fr := ⟨w, fun _ => False, F.out ρ (C1 s ns).h, fun _ => undef, []⟩
 have hRb := hR.weak (Lj s ns);have hR2 : RelR F2 0 ρ ⟨fun _ => .dead, fun _ => none⟩ ⟨#[], []⟩ w :=
  ⟨⟨rfl, rfl, rfl, Nat.le_refl _, fun _ _ _ => rfl, fun b hb => ⟨by
   rcases hb with hb | hb
   · exact hRb.lt hb
   · exact Nat.lt_of_lt_of_le (hR.fr.hid b hb).1 hR.fr.size, id⟩, ⟨hR.tabW, fun _ _ => id⟩⟩, fun b ⟨n, x, h, _⟩ => by simp at h, fun n x h => by simp at h, fun n m x y b h => by simp at h, fun n => by simp only [Conc], rfl, rfl⟩
 have hV : (vw F w ρ s).le (vw F2 w ρ ⟨fun _ => .dead, fun _ => none⟩) := Bi fun b c ho hc => ⟨fun hb => by
  rcases hb with ⟨n, x, h, _⟩ | hb
  · simp at h
  · rcases hb with ⟨k, x, h1, h2⟩ | hb
    · simp only [C1] at h1;split at h1
      · cases h1
      · exact ho (.inl ⟨k, x, h1, h2⟩)
    · exact ho (.inr hb), hc⟩
 have hp : ∀ n ∈ ns, ∀ sz es, lk none n H = some (.row sz es) → PConc (vw F2 w ρ ⟨fun _ => .dead, fun _ => none⟩) (.sl false sz es) (ρ n) := fun n hn sz es e => by
  have hs : s.h n = some (.row sz es) := (hh n (hin n hn)).trans e;exact (Lu hR hs).mono (Bi fun b c ho hc => ⟨fun hb => by
   rcases hb with ⟨n, x, h, _⟩ | hb
   · simp at h
   · rcases hb with ⟨k, x, h1, h2⟩ | hb
     · simp only [C1] at h1;split at h1
       · cases h1
       · rename_i hk;exact ho (.inl ⟨k, x, by simp only [FS.seth, if_neg (show k ≠ n from fun e => hk (e ▸ hn))]; exact h1, h2⟩)
     · exact ho (.inr hb), hc⟩)
 refine Calls.mono (hf.2 F2 0 ρ _ _ w hR2 (by rw [H4 hc]; simp) vs (Tc hp (hv.mono hV))) fun e w' he => ?_;obtain ⟨v, ρ', rfl, hR', hy⟩ := he;exact ⟨v, ρ, rfl, hR.grew ⟨hR'.fr.os, hR'.fr.tape, hR'.fr.output, hR'.fr.size, fun b hb => hR'.fr.block b hb id⟩, E3 hx hy⟩
end Go.Proofs.YtannaphhhkncoaaGreat.Fw
namespace Go.Proofs.YtannaphhhkncoaaGreat.Fw
open Go.RowKit
variable {P : Program} {F : Fr} {N : Nat} {ρ ρ' : Nat → Value} {s : FS} {a : Act} {w w' : World} {V V' : View}
def Afe : Ex → Bool
 | .normal => true
 | .ret => true
 | _ => false
def Un (s : ES) : List Rv → Option (List SV)
 | [] => some []
 | .t n :: rs => (Un s rs).map (s.fs.t n :: ·)
 | .c a size ag :: rs => match ldC s.fs.h size ag (s.fs.t a) with
   | some (x, []) => (Un s rs).map (x :: ·)
   | _ => none
theorem Oe {s : ES} : ∀ {rs : List Rv} {l : List SV} {K : List SV → Prop}, Un s rs = some l → K l → Kf s.fs rs K
 | [], l, K, h, hk => by cases h; exact hk
 | .t n :: rs, l, K, h, hk => by
   obtain ⟨l', h1, rfl⟩ := Option.map_eq_some_iff.1 h;exact Oe (rs := rs) (K := fun l => K (s.fs.t n :: l)) h1 hk
 | .c a size ag :: rs, l, K, h, hk => by
   simp only [Un] at h;split at h
   · rename_i x hx;obtain ⟨l', h1, rfl⟩ := Option.map_eq_some_iff.1 h;exact As5 hx ⟨rfl, Oe (rs := rs) (K := fun l => K (x :: l)) h1 hk⟩
   · cases h
theorem Abj {rs : List Rv} {R : SV → FS → Prop} {e : Ex} {s : ES} {l : List SV} (he : Afe e = true) (h : Un s rs = some l) (hr : R (one l) s.fs) : A7f rs R e s.fs := by
 cases e with
 | normal => exact Oe h hr
 | ret => exact Oe h hr
 | exit _ => cases he
theorem Abi {rs : List Rv} {R : SV → FS → Prop} {e : Ex} {s s' : ES} {l : List SV} (he : Afe e = true) (hw : Wk s.fs s'.fs) (h : Un s' rs = some l) (hr : R (one l) s'.fs) : Yh rs R e s.fs := by
 cases e with
 | normal => exact ⟨s'.fs, hw, Oe h hr⟩
 | ret => exact ⟨s'.fs, hw, Oe h hr⟩
 | exit _ => cases he
def Akh (h : HL) : List Nat → Option (Nat × PV)
 | [] => none
 | n :: ns => match lk none n h with
   | some (.row sz es) => some (n, .sl false sz es)
   | _ => Akh h ns
def Te (rs : List Rv) : Nat → ES → ES
 | 0, s => s
 | k + 1, s => match Un s rs with
   | some l => match Akh s.h (Bd l) with
     | some (n, v) => Te rs k (A5n n v s)
     | none => s
   | none => s
theorem Aef {h : HL} : ∀ {ns : List Nat} {n : Nat} {v : PV}, Akh h ns = some (n, v) → ∃ sz es, lk none n h = some (.row sz es) ∧ v = .sl false sz es
 | [], n, v, e => by cases e
 | m :: ns, n, v, e => by
   simp only [Akh] at e;split at e
   · rename_i sz es hl; cases e; exact ⟨sz, es, hl, rfl⟩
   · exact Aef e
theorem Td {rs : List Rv} : ∀ {k : Nat} {s : ES}, Wk s.fs (Te rs k s).fs
 | 0, s => .same _
 | k + 1, s => by
   simp only [Te];split
   · split
     · rename_i n v hr;obtain ⟨sz, es, h1, rfl⟩ := Aef hr;exact .frz n sz es h1 (by rw [← At3]; exact Td)
     · exact .same _
   · exact .same _
def A5j : SV → SV → Bool
 | .p m 0, .p k 0 => m == k
 | .os m, .os k => m == k
 | _, _ => false
theorem Azi {x y : SV} (h : A5j x y = true) : x = y := by
 unfold A5j at h;split at h
 · rw [eq_of_beq h]
 · rw [eq_of_beq h]
 · cases h
def Azl (t : Nat → SV) (ns : List Nat) : List (Nat × PV) := ns.filterMap fun n => match t (Eo + n) with
 | .pv v => some (n, v)
 | _ => none
def Bdi (t : Nat → SV) (ns : List Nat) : List Nat := ns.filter fun n => match t (Eo + n) with
 | .pv _ => false
 | _ => true
def Zj (h : Nat → Option Blk) (M : Nat) : Nat → List Nat → List Nat → List Nat
 | 0, _, acc => acc
 | _, [], acc => acc
 | k + 1, n :: ns, acc => if n < M ∧ acc.contains n = false then Zj h M k (ns ++ match h n with
   | some b => tnB b
   | none => []) (n :: acc) else Zj h M k ns acc
def At6 (H : HL) (nw : List (Nat × Nat)) : Nat → Nat → Nat
 | 0, j => j
 | k + 1, j => if H.any (fun p => p.1 == j) || nw.any (fun p => p.2 == j) then At6 H nw k (j + 1) else j
def A9d (H : HL) (j : Nat) : List Nat → List (Nat × Nat) → List (Nat × Nat)
 | [], nw => nw
 | k :: ks, nw => A9d H j ks ((k, At6 H nw 1000 j) :: nw)
def inA (M : Nat) (nw : List (Nat × Nat)) (al : List Nat) (k : Nat) : Bool := nw.any (fun p => p.1 == k) || al.any fun n => n + M == k
def As3 (M : Nat) (H : HL) (Y : SV) (t : Nat → SV) (h1 : Nat → Option Blk) (al ns : List Nat) (fz : List (Nat × PV)) (nw : List (Nat × Nat)) (σ : Nat → Nat) : Bool :=
 (H.all fun p => p.2.isNone || al.contains p.1 || fz.any fun q => q.1 == p.1) &&
 (al.all fun n => match lk none n H with
   | some b => A5j (t (Eo + n)) (b.gp (n + M)) && σ (n + M) == n
   | none => false) &&
 (fz.all fun p => (lk none p.1 H).isSome) &&
 (nw.all fun p => decide (p.1 < M) && decide (kof nw p.2 = some p.1) && (lk none p.2 H).isNone && σ p.1 == p.2 && (h1 p.1).isSome) &&
 (tn Y).all (inA M nw al) &&
 ((nw.map (·.1) ++ al.map (· + M)).all fun q => match h1 q with
   | some b => (tnB b).all (inA M nw al)
   | none => true)
theorem Ate {M : Nat} {nw : List (Nat × Nat)} {al : List Nat} {k : Nat} (h : inA M nw al k = true) : k ∈ nw.map (·.1) ∨ ∃ n ∈ al, k = n + M := by
 simp only [inA, Bool.or_eq_true, List.any_eq_true, beq_iff_eq] at h;rcases h with ⟨p, hp, rfl⟩ | ⟨n, hn, rfl⟩
 · exact .inl (List.mem_map.2 ⟨p, hp, rfl⟩)
 · exact .inr ⟨n, hn, rfl⟩
theorem Ae6 {M : Nat} {H : HL} {Y : SV} {t : Nat → SV} {h1 : Nat → Option Blk} {al ns ks : List Nat} {nw : List (Nat × Nat)} {σ : Nat → Nat} (h : As3 M H Y t h1 al ns (Azl t ks) nw σ = true) : Left M H Y t h1 al (Azl t ks) nw σ := by
 simp only [As3, Bool.and_eq_true, List.all_eq_true] at h;obtain ⟨⟨⟨⟨⟨h1', h2⟩, h3⟩, h4⟩, h5⟩, h6⟩ := h;refine ⟨fun n b hb => ?_, fun n hn => ?_, fun p hp => ?_, fun p hp => ?_, fun k hk => Ate (h5 k hk), fun q b hq hb k hk => ?_⟩
 · have := h1' (n, some b) (Aie hb (by simp));simp only [Option.isNone_some, Bool.false_or, Bool.or_eq_true, List.contains_eq_mem, decide_eq_true_eq, List.any_eq_true, beq_iff_eq] at this;exact this
 · have := h2 n hn;split at this
   · rename_i b hb;simp only [Bool.and_eq_true, beq_iff_eq] at this;exact ⟨b, hb, Azi this.1, this.2⟩
   · cases this
 · have h7 := h3 p hp;refine ⟨(by intro e; rw [e] at h7; cases h7), ?_⟩;obtain ⟨n, _, hn⟩ := List.mem_filterMap.1 hp;split at hn
   · rename_i v hv; cases hn; exact hv
   · cases hn
 · have := h4 p hp;simp only [Bool.and_eq_true, decide_eq_true_eq, beq_iff_eq, Option.isNone_iff_eq_none] at this;exact ⟨this.1.1.1.1, this.1.1.1.2, this.1.1.2, this.1.2, this.2⟩
 · have hq' : q ∈ nw.map (·.1) ++ al.map (· + M) := by
    rcases hq with hq | ⟨n, hn, rfl⟩
    · exact List.mem_append_left _ hq
    · exact List.mem_append_right _ (List.mem_map.2 ⟨n, hn, rfl⟩)
   have := h6 q hq';rw [hb] at this;exact Ate ((List.all_eq_true.1 this) k hk)
def Ab5 (j M : Nat) (H : HL) (s1 : ES) (Y : SV) : M9 :=
 let ns := (H.filter fun p => p.2.isSome).map (·.1)
 let al := Bdi s1.fs.t ns
 let nw := A9d H j (Zj s1.fs.h M 60 (tn Y ++ (al.map fun n => match s1.fs.h (n + M) with
  | some b => tnB b
  | none => []).flatten) []) []
 let σ := fun k => if M ≤ k then k - M else lk k k nw
 if As3 M H Y s1.fs.t s1.fs.h al ns (Azl s1.fs.t ns) nw σ = true then some (Y.rn σ, uOf M al (Azl s1.fs.t ns) nw σ s1.fs.h) else none
abbrev Run := C → ES → Option (Ex × ES)
def A11 : SV → Bool
 | .agg _ => true
 | .tup _ => true
 | _ => false
def Alt (P : Program) (run : Run) (z : Bool) (j f : Nat) (args : List SV) (H : HL) : M9 := match Bf P f with
 | some (N', rs, c) =>
   let M := H.foldl (fun m p => max m (p.1 + 1)) Eo
   if args.length ≤ N' then match run c ⟨C4 0 (SV.rnL (· + M) args) ++ ghs Eo M H, shH M H⟩ with
    | some (e, s1) => match Un s1 rs with
      | some l => if Afe e = true then
         if (z && A11 (one l)) = true then match Un (Te rs 40 s1) rs with
          | some l => Ab5 j M H (Te rs 40 s1) (one l)
          | none => none
         else Ab5 j M H s1 (one l)
        else none
      | none => none
    | none => none
   else none
 | none => none
def Age (P : Program) (run : Run) (f : Nat) : List Nat → List SV → HL → M9
 | [], args, H => Alt P run false 500000 f args H
 | n :: l, args, H => match lk none n H with
   | some (.row sz es) => (Age P run f l (SV.frzL n (.sl false sz es) args) (Ml n (.sl false sz es) H)).map fun r => (r.1, .frz n (.sl false sz es) :: r.2)
   | _ => Age P run f l args H
def Ask : List SV → List Nat
 | [] => []
 | .agg l :: r => Bd l ++ Ask r
 | _ :: r => Ask r
def Als (P : Program) (orc : Vn) (run : Run) : Vn := fun d f args H => match orc d f args H with
 | some r => some r
 | none => Age P run f (Ask (SV.explL args)) (SV.explL args) H
def Yg (P : Program) (run : Run) : Prop := ∀ (r : Option Nat) (X : Frs) (N : Nat) (c : C) (s : ES) (e : Ex) (s' : ES), run c s = some (e, s') → ∀ Q : Ch, Q e s'.fs → sx (Ff P r X N) c Q s.fs
theorem Agf (hm : P.follows .mixedOrders = true) {run : Run} (hr : Yg P run) {z : Bool} {j f : Nat} {args : List SV} {H : HL} {x : SV} {u : List HU} (h : Alt P run z j f args H = some (x, u)) : Pc P f ∧ ∀ (F : Fr) (N : Nat) (ρ : Nat → Value) (s : FS) (a : Act) (w : World), RelR F N ρ s a w → (∀ n b, lk none n H = some b → s.h n = some b) →
 ∀ vs, ConcL (vw F w ρ s) ρ args vs → Calls P f ⟨vs⟩ w fun e w' => ∃ v ρ', e = .returned v ∧ RelR F N ρ' (s.hup u) a w' ∧ Conc (vw F w' ρ' (s.hup u)) ρ' x v := by
 unfold Alt at h;split at h
 · rename_i N' rs c hf;refine ⟨Cj hf, fun F N ρ s a w hR hh vs hv => ?_⟩;simp only at h;split at h
   · rename_i hlen;split at h
     · rename_i e s1 h1;split at h
       · rename_i l hl;split at h
         · rename_i he;split at h
           · split at h
             · rename_i l2 hl2;simp only [Ab5] at h;split at h
               · rename_i hL;cases h;exact Z3 hm hf hlen (Ae6 hL) (fun F => hr _ _ _ _ _ _ _ h1 _ (Abi he Td hl2 ⟨rfl, rfl, fun _ _ => rfl⟩)) hR hh hv
               · cases h
             · cases h
           · simp only [Ab5] at h;split at h
             · rename_i hL;cases h;exact Z3 hm hf hlen (Ae6 hL) (fun F => hr _ _ _ _ _ _ _ h1 _ (Abi he (.same _) hl ⟨rfl, rfl, fun _ _ => rfl⟩)) hR hh hv
             · cases h
         · cases h
       · cases h
     · cases h
   · cases h
 · cases h
theorem Xw (hm : P.follows .mixedOrders = true) {run : Run} (hr : Yg P run) {f : Nat} {d : Nat} : ∀ {ns : List Nat} {args : List SV} {H : HL} {x : SV} {u : List HU}, Age P run f ns args H = some (x, u) → DeepOk P f args (fun n => lk none n H) d x u
 | [], args, H, x, u, h => let ⟨h1, h2⟩ := Agf hm hr h; ⟨h1, fun F N ρ s a w hR hh vs hv => h2 F N ρ s a w hR (fun n b hb => by rw [hh]; exact hb) vs hv⟩
 | n :: l, args, H, x, u, h => by
   simp only [Age] at h;split at h
   · rename_i sz es hn;obtain ⟨⟨x', u'⟩, h1, h2⟩ := Option.map_eq_some_iff.1 h;cases h2;exact DeepOk.fz hn (Xw hm hr h1)
   · exact Xw hm hr h
def A7g (P : Program) (orc : Vn) : Prop := ∀ d f args H x u, orc d f args H = some (x, u) → DeepOk P f args (fun n => lk none n H) d x u
def A1a (P : Program) (orc : Vn) : Prop := ∀ d f args H x u, orc d f args H = some (x, u) → FunOk P f args (fun n => lk none n H) d x u
theorem Aut (hm : P.follows .mixedOrders = true) {orc : Vn} (ho : A7g P orc) {run : Run} (hr : Yg P run) {r : Option Nat} {X : Frs} {N : Nat} : Yj (Ff P r X N) (Als P orc run) := by
 intro d f args H x u h;refine .inr ?_;unfold Als at h;split at h
 · rename_i hs; cases h; exact ho _ _ _ _ _ _ hs
 · exact (Xw (d := d) hm hr h).expl
def A99 (d : Nat) (rs : List Rv) (cl : Bool) (s1 : ES) (y : SV) : M9 := match y with
 | .os k => match lk none k s1.h with
   | some (.row sz es) => if cl || es.all (fun c => c.all PV.flat) then some (.os d, [.new d (.row sz es)]) else none
   | _ => none
 | y => if y.scalar then some (y, []) else if cl then match Un (Te rs 40 s1) rs with
    | some l => if (one l).closed then some (one l, []) else none
    | none => none
   else none
def As0 (P : Program) (run : Run) (d f : Nat) (args : List SV) (H : HL) : M9 := match Bf P f with
 | some (N', rs, c) =>
   if args.length ≤ N' then
    if Bc args = true then match run c ⟨C4 0 (Ct (fun n => lk none n H) args), []⟩ with
     | some (e, s1) => match Un s1 rs with
       | some l => if Afe e = true then A99 d rs (SV.closedL args) s1 (one l) else none
       | none => none
     | none => none
    else
     let a2 := Acl H (Bd args) args
     if SV.closedL a2 = true then match run c ⟨C4 0 a2, []⟩ with
      | some (e, s1) => match Un s1 rs with
        | some l => if (Afe e && (one l).scalar) = true then some (one l, []) else none
        | none => none
      | none => none
     else none
   else none
 | none => none
def Ny (P : Program) (orc : Vn) (run : Run) : Vn := fun d f args H => match orc d f args H with
 | some r => some r
 | none => match As0 P run d f (SV.explL args) H with
   | some r => some r
   | none => Alt P run true d f (SV.explL args) ((Bd (SV.explL args)).map fun n => (n, lk none n H))
theorem Aid {H : HL} {n : Nat} {b : Blk} : ∀ {ns : List Nat}, lk none n (ns.map fun n => (n, lk none n H)) = some b → n ∈ ns ∧ lk none n H = some b
 | [], h => by cases h
 | m :: ns, h => by
   simp only [List.map_cons, lk] at h;split at h
   · rename_i e; subst e; exact ⟨List.mem_cons_self, h⟩
   · exact ⟨List.mem_cons_of_mem _ (Aid h).1, (Aid h).2⟩
theorem Afr (n : Nat) (v : PV) : ∀ l : List SV, (SV.frzL n v l).length = l.length
 | [] => rfl
 | x :: l => by simp only [SV.frzL, List.length_cons, Afr n v l]
theorem Xk {H : HL} : ∀ (ns : List Nat) (l : List SV), (Acl H ns l).length = l.length
 | [], l => rfl
 | n :: ns, l => by
   simp only [Acl];split
   · rw [Xk ns, Afr]
   · exact Xk ns l
theorem Asz (hm : P.follows .mixedOrders = true) {run : Run} (hr : Yg P run) {d f : Nat} {args : List SV} {H : HL} {x : SV} {u : List HU} (h : As0 P run d f args H = some (x, u)) : FunOk P f args (fun n => lk none n H) d x u := by
 unfold As0 at h;split at h
 · rename_i N' rs c hf;split at h
   · rename_i hlen;split at h
     · rename_i hl;split at h
       · rename_i e s1 h1;split at h
         · rename_i l hres;split at h
           · rename_i he;unfold A99 at h;split at h
             · rename_i k hk;split at h
               · rename_i sz es hrow;split at h
                 · rename_i hcl;cases h;refine O1 hm hf hlen hl ?_ fun F => hr _ _ _ _ _ _ _ h1 _ (Abj he hres ⟨k, hk, hrow⟩);simpa using hcl
                 · cases h
               · cases h
             · split at h
               · rename_i hsc;cases h;exact Cx hm hf hlen hl hsc fun F => hr _ _ _ _ _ _ _ h1 _ (Abj he hres rfl)
               · split at h
                 · rename_i hcl;split at h
                   · rename_i l2 hres2;split at h
                     · rename_i hc2;cases h;refine Tb hm hf hlen hcl hc2 fun F => ?_;have e := (Bl hcl).2.2 (fun n => lk none n H);rw [← e];exact hr _ _ _ _ _ _ _ h1 _ (Abi he Td hres2 rfl)
                     · cases h
                   · cases h
                 · cases h
           · cases h
         · cases h
       · cases h
     · simp only at h;split at h
       · rename_i hcl;split at h
         · rename_i e s1 h1;split at h
           · rename_i l hres;split at h
             · rename_i he;cases h;simp only [Bool.and_eq_true] at he;refine FunOk.lends (h' := fun _ => none) (d' := 0) (fun n hn => hn) hcl he.2 ?_;have e := (Bl hcl).2.2 (fun _ => none);refine Cx hm hf (by rw [Xk]; exact hlen) (Bl hcl).2.1 he.2 fun F => ?_;rw [e];exact hr _ _ _ _ _ _ _ h1 _ (Abj he.1 hres rfl)
             · cases h
           · cases h
         · cases h
       · cases h
   · cases h
 · cases h
theorem Aae (hm : P.follows .mixedOrders = true) {orc : Vn} (ho : A1a P orc) {run : Run} (hr : Yg P run) {d f : Nat} {args : List SV} {H : HL} {x : SV} {u : List HU} (h : Ny P orc run d f args H = some (x, u)) : FunOk P f args (fun n => lk none n H) d x u := by
 unfold Ny at h;split at h
 · rename_i hs; cases h; exact ho _ _ _ _ _ _ hs
 · refine FunOk.expl ?_;split at h
   · rename_i hs; cases h; exact Asz hm hr hs
   · obtain ⟨h1, h2⟩ := Agf hm hr h;exact ⟨h1, fun F N ρ s a w hR hh vs hv => h2 F N ρ s a w hR (fun n b hb => by
      obtain ⟨g1, g2⟩ := Aid hb;rw [hh n g1]; exact g2) vs hv⟩
theorem Xx (hm : P.follows .mixedOrders = true) {orc : Vn} (ho : A1a P orc) {run : Run} (hr : Yg P run) {r : Option Nat} {X : Frs} {N : Nat} : Yj (Ff P r X N).reg (Ny P orc run) :=
 fun d f args H x u h => .inl (.inl (Aae hm ho hr h))
def Aue (run : ES → Option (Ex × ES)) : Nat → ES → Option (Ex × ES)
 | 0, _ => none
 | k + 1, s => match run s with
   | some (.normal, s1) => Aue run k s1
   | r => r
def Vi (P : Program) (oD oR : Vn) : Nat → Run
 | 0 => fun _ _ => none
 | n + 1 => fun c s => match c with
   | .ops l => (evO (Als P oD (Vi P oD oR n)) l s).map fun s => (.normal, s)
   | .any D l => (Aiy (Ny P oR (Vi P oD oR n)) l (Mg D s)).map fun s => (.normal, s)
   | .anyF D l => (Aiy (Ny P oR (Vi P oD oR n)) l (Mg D s)).map fun s => (.normal, s)
   | .anyP D l => (evP (Ny P oR (Vi P oD oR n)) l [] (Mg D s)).map fun s => (.normal, s)
   | .seq a b => match Vi P oD oR n a s with
     | some (.normal, s1) => Vi P oD oR n b s1
     | r => r
   | .ite c a b => match s.fs.ev c with
     | .pv (.b p) => if p = true then Vi P oD oR n a s else Vi P oD oR n b s
     | _ => none
   | .block id a => match Vi P oD oR n a s with
     | some (.exit j, s1) => if j = id then some (.normal, s1) else some (.exit j, s1)
     | r => r
   | .loop a => Aue (Vi P oD oR n a) 200 s
   | .exit id => some (.exit id, s)
   | .ret => some (.ret, s)
   | .skip => some (.normal, s)
   | _ => none
theorem Aua (hm : P.follows .mixedOrders = true) {oD oR : Vn} (hD : A7g P oD) (hO : A1a P oR) : ∀ n, Yg P (Vi P oD oR n)
 | 0 => fun r X N c s e s' h => by cases h
 | n + 1 => fun r X N c s e s' h Q hq => by
   have ih := Aua hm hD hO n;cases c with
   | ops l =>
     obtain ⟨s1, h1, h2⟩ := Option.map_eq_some_iff.1 (show (evO (Als P oD (Vi P oD oR n)) l s).map (fun s => (Ex.normal, s)) = some (e, s') from h);cases h2;exact Auc (Aut hm hD ih) h1 hq
   | any D l =>
     obtain ⟨s1, h1, h2⟩ := Option.map_eq_some_iff.1 (show (Aiy (Ny P oR (Vi P oD oR n)) l (Mg D s)).map (fun s => (Ex.normal, s)) = some (e, s') from h);cases h2;show sxA _ l Q (killD D s.fs);rw [← Rp];exact Acp (Xx hm hO ih) h1 hq
   | anyF D l =>
     obtain ⟨s1, h1, h2⟩ := Option.map_eq_some_iff.1 (show (Aiy (Ny P oR (Vi P oD oR n)) l (Mg D s)).map (fun s => (Ex.normal, s)) = some (e, s') from h);cases h2;refine G3 ?_;rw [← Rp];exact Acp (Xx hm hO ih) h1 hq
   | anyP D l =>
     obtain ⟨s1, h1, h2⟩ := Option.map_eq_some_iff.1 (show (evP (Ny P oR (Vi P oD oR n)) l [] (Mg D s)).map (fun s => (Ex.normal, s)) = some (e, s') from h);cases h2;refine R4 ?_;rw [← Rp];exact Aub (Xx hm hO ih) h1 hq
   | seq a b =>
     replace h : (match Vi P oD oR n a s with
      | some (.normal, s1) => Vi P oD oR n b s1
      | r => r) = some (e, s') := h
     show sx _ a (Ap8 (sx _ b Q) Q) s.fs;split at h
     · rename_i s1 h1;exact ih _ _ _ _ _ _ _ h1 _ (ih _ _ _ _ _ _ _ h _ hq)
     · rename_i h1 h2;refine ih _ _ _ _ _ _ _ h _ ?_;cases e with
       | normal => exact (h2 s' h).elim
       | exit _ => exact hq
       | ret => exact hq
   | ite c a b =>
     replace h : (match s.fs.ev c with
      | .pv (.b p) => if p = true then Vi P oD oR n a s else Vi P oD oR n b s
      | _ => none) = some (e, s') := h
     show (match s.fs.ev c with
      | .pv (.b p) => if p = true then sx _ a Q s.fs else sx _ b Q s.fs
      | _ => False)
     split at h
     · rename_i p hp
       try rw [hp]
       try simp only
       split at h
       · rename_i e1; rw [if_pos e1]; exact ih _ _ _ _ _ _ _ h _ hq
       · rename_i e1; rw [if_neg e1]; exact ih _ _ _ _ _ _ _ h _ hq
     · cases h
   | block id a =>
     replace h : (match Vi P oD oR n a s with
      | some (.exit j, s1) => if j = id then some (.normal, s1) else some (.exit j, s1)
      | r => r) = some (e, s') := h
     show sx _ a (T9 id Q) s.fs;split at h
     · rename_i j s1 h1;refine ih _ _ _ _ _ _ _ h1 _ ?_;simp only [T9];split at h
       · rename_i e1; cases h; rw [if_pos e1]; exact hq
       · rename_i e1; cases h; rw [if_neg e1]; exact hq
     · rename_i h1 h2;refine ih _ _ _ _ _ _ _ h _ ?_;cases e with
       | normal => exact hq
       | exit j => exact (h2 j s' h).elim
       | ret => exact hq
   | loop a =>
     replace h : Aue (Vi P oD oR n a) 200 s = some (e, s') := h;show (Ff P r X N).loop a Q s.fs;refine A1 hm (α := Nat × ES) (fun x => x.2.fs) (fun x => Aue (Vi P oD oR n a) x.1 x.2 = some (e, s')) (fun x => x.1) (200, s) h (.same _) fun x hx => ?_;obtain ⟨k, S⟩ := x;cases k with
     | zero => cases hx
     | succ k =>
       simp only [Aue] at hx;split at hx
       · rename_i s1 h1;exact ih _ _ _ _ _ _ _ h1 _ ⟨(k, s1), hx, Nat.lt_succ_self k, .same _⟩
       · rename_i h1 h2;refine ih _ _ _ _ _ _ _ hx _ ?_;cases e with
         | normal => exact (h2 s' hx).elim
         | exit _ => exact hq
         | ret => exact hq
   | exit id => cases h; exact hq
   | ret => cases h; exact hq
   | skip => cases h; exact hq
   | rng g ps a b => cases h
   | bad => cases h
end Go.Proofs.YtannaphhhkncoaaGreat.Fw
