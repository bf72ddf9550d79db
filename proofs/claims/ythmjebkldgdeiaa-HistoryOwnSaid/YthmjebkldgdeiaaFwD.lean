/- Loops, calls and loops over functions of the small language do in the model what their meaning tells. -/
import Derived.Test.YthmjebkldgdeiaaFwC
set_option linter.unusedVariables false
set_option linter.unusedSimpArgs false
set_option linter.unusedSectionVars false
namespace Go.Proofs.Ythmjebkldgdeiaa.Fw
open Go.RowKit
variable {P : Program} {F : Fr} {N : Nat} {ρ ρ' : Nat → Value} {s : FS} {a : Act} {w w' : World} {V V' : View}
def Ca : Nat → List SV → List (Nat × SV)
 | _, [] => []
 | k, x :: l => (k, x) :: Ca (k + 1) l
inductive Rv where
 | t (n : Nat)
 | c (a size : Nat) (ag : Bool)
def Jr (s : FS) : List Rv → (List SV → Prop) → Prop
 | [], K => K []
 | .t n :: rs, K => Jr s rs fun l => K (s.t n :: l)
 | .c a size ag :: rs, K => G8 s.h size ag (s.t a) fun x u => u = [] ∧ Jr s rs fun l => K (x :: l)
def one : List SV → SV
 | [x] => x
 | l => .tup l
def A0r (rs : List Rv) (R : SV → FS → Prop) : Cc
 | .normal, s => Jr s rs fun l => R (one l) s
 | .ret, s => Jr s rs fun l => R (one l) s
 | _, _ => False
def Vl (rs : List Rv) (R : SV → FS → Prop) (s : FS) : Prop := ∃ s', Wk s s' ∧ Jr s' rs fun l => R (one l) s'
def Y8 (rs : List Rv) (R : SV → FS → Prop) : Cc
 | .normal, s => Vl rs R s
 | .ret, s => Vl rs R s
 | _, _ => False
def Qq (rs : List Rv) (R : SV → (Nat → Option Blk) → Prop) : Cc := A0r rs fun y s => R y s.h
def Xt (P : Program) : ResultVar → Option Rv
 | .tmp t => if t < Gj then some (.t t) else none
 | .cell a t => match Ad P t, Eo P t with
   | some sz, some ag => if sz = 0 ∨ Gj ≤ a then none else some (.c a sz ag)
   | _, _ => none
def A7 (P : Program) (f : Nat) : Option (Nat × List Rv × C) := match P.funcs[f]? with
 | some fn => match fn.body, Ak (fn.results.toList.map (Xt P)) with
   | some code, some rs => if fn.name = "runtime.NumGoroutine" ∨ Gj < fn.ntmps then none else (Bj P fn.ntmps code).map fun c => (fn.ntmps, rs, c)
   | _, _ => none
 | none => none
theorem Sc {f : Nat} {rs : List Rv} {c : C} (h : A7 P f = some (N, rs, c)) : ∃ fn code, P.funcs[f]? = some fn ∧ fn.name ≠ "runtime.NumGoroutine" ∧ fn.body = some code ∧ fn.ntmps = N ∧ Ak (fn.results.toList.map (Xt P)) = some rs ∧ Bj P N code = some c := by
 unfold A7 at h;split at h
 · rename_i fn hf;split at h
   · rename_i code rs' hb hr;split at h
     · cases h
     · rename_i hn;obtain ⟨c', hc, e⟩ := Option.map_eq_some_iff.1 h;cases e;exact ⟨fn, code, hf, fun e => hn (.inl e), hb, rfl, hr, hc⟩
   · cases h
 · cases h
theorem Me {f : Nat} {rs : List Rv} {c : C} (h : A7 P f = some (N, rs, c)) : N ≤ Gj := by
 unfold A7 at h;split at h
 · split at h
   · split at h
     · cases h
     · rename_i hn;obtain ⟨c', hc, e⟩ := Option.map_eq_some_iff.1 h;cases e;exact Nat.le_of_not_lt fun e => hn (.inr e)
   · cases h
 · cases h
theorem Ajn {t : TypeId} {x v : Value} (h : (Instr.loadAt t x).run P w = .ok v w) : (do loadVar t (← asAddr x) : Sem Value).run P w = .ok v w := by
 unfold Instr.loadAt at h;cases x <;> first | exact h | skip
 all_goals first | (rename_i o; cases o <;> first | exact h | (cases h)) | (cases h)
theorem Afd (tmps : Array Value) (g : ResultVar → Sem Value) (hg : ∀ t, g (.tmp t) = pure (tmps.getD t undef)) (hg' : ∀ a t v, (Instr.loadAt t (tmps.getD a undef)).run P w = .ok v w → (g (.cell a t)).run P w = .ok v w) (hR : RelR F N ρ s a w) (ht : a.tmps = tmps) :
 ∀ (vars : List ResultVar) (rs : List Rv) (K : List SV → Prop) (acc : Array Value), Ak (vars.map (Xt P)) = some rs → Jr s rs K →
  ∃ l vs, K l ∧ ConcL (vw F w ρ s) ρ l vs ∧ (List.foldlM (fun (bs : Array Value) r => bs.push <$> g r) acc vars).run P w = .ok (acc ++ (⟨vs⟩ : Array Value)) w
 | [], rs, K, acc, h, hk => by
   simp only [List.map_nil, Ak, Option.some.injEq] at h;subst h;exact ⟨[], [], hk, by simp only [ConcL], by simp⟩
 | x :: vars, rs, K, acc, h, hk => by
   obtain ⟨r, rs', rfl, h1, h2⟩ := A0 (show Ak (Xt P x :: vars.map (Xt P)) = some rs from h);have key : ∀ (v : Value) (y : SV), (g x).run P w = .ok v w → Conc (vw F w ρ s) ρ y v → (Jr s rs' fun l => K (y :: l)) →
    ∃ l vs, K l ∧ ConcL (vw F w ρ s) ρ l vs ∧ (List.foldlM (fun (bs : Array Value) r => bs.push <$> g r) acc (x :: vars)).run P w = .ok (acc ++ (⟨vs⟩ : Array Value)) w := fun v y hv hy hk' => by
    obtain ⟨l, vs, k1, k2, k3⟩ := Afd tmps g hg hg' hR ht vars rs' _ (acc.push v) h2 hk';refine ⟨y :: l, v :: vs, k1, by simp only [ConcL]; exact ⟨v, vs, rfl, hy, k2⟩, ?_⟩;rw [List.foldlM_cons];have : (acc.push <$> g x : Sem (Array Value)).run P w = .ok (acc.push v) w := by
     rw [← bind_pure_comp];rw [Ab hv]; rfl
    rw [Ab this, k3];congr 1;exact Array.toList_inj.1 (by simp)
   cases x with
   | tmp t =>
     simp only [Xt] at h1;split at h1
     · rename_i hb;simp only [Option.some.injEq] at h1;subst h1;simp only [Jr] at hk;refine key (tmps.getD t undef) (s.t t) (by rw [hg]; rfl) ?_ hk;rw [← ht]; exact hR.tm t hb
     · cases h1
   | cell b t =>
     simp only [Xt] at h1;split at h1
     · rename_i sz ag hsz hag;split at h1
       · cases h1
       · rename_i hne;simp only [Option.some.injEq] at h1;subst h1;simp only [Jr] at hk;obtain ⟨v, y, g1, g2, g3⟩ := Avs (P := P) hR (hR.tm b (by omega)) (by omega) hsz hag hk;exact key v y (hg' b t v (by rw [← ht]; exact g1)) g3 g2.2
     · cases h1
theorem Q0 {fn : Func} {rs : List Rv} (hR : RelR F N ρ s a w) (h : Ak (fn.results.toList.map (Xt P)) = some rs) {K : List SV → Prop} (hk : Jr s rs K) :
 ∃ l v, K l ∧ Conc (vw F w ρ s) ρ (one l) v ∧ (results fn a.tmps).run P w = .ok v w := by
 unfold results;rw [Array.mapM_eq_foldlM];rw [← Array.foldlM_toList];obtain ⟨l, vs, h1, h2, h3⟩ := Afd (P := P) a.tmps (fun x => match x with
  | .tmp t => pure (a.tmps.getD t undef)
  | .cell b t => do loadVar t (← asAddr (a.tmps.getD b undef))) (fun _ => rfl) (fun b t v hv => Ajn hv) hR rfl fn.results.toList rs K #[] h hk
 refine ⟨l, _, h1, ?_, (Ab h3).trans rfl⟩;cases l with
 | nil => simp only [ConcL] at h2; subst h2; simp only [one, Conc]; exact ⟨[], rfl, by simp only [ConcL]⟩
 | cons x l =>
   simp only [ConcL] at h2;obtain ⟨v, us, rfl, h4, h5⟩ := h2;cases l with
   | nil => simp only [ConcL] at h5; subst h5; simpa [one] using h4
   | cons y l =>
     have h5' := h5;simp only [ConcL] at h5;obtain ⟨v', us', rfl, h6, h7⟩ := h5;simp only [one, Conc];refine ⟨v :: v' :: us', ?_, by simp only [ConcL]; exact ⟨v, _, rfl, h4, v', us', rfl, h6, h7⟩⟩;simp
theorem Fc : ∀ {args : List SV} {vs : List Value} (k : Nat) (n : Nat), ConcL V ρ args vs → Conc V ρ (lk .dead n (Ca k args)) (if k ≤ n then (vs[n - k]?).getD undef else undef)
 | [], vs, k, n, h => by simp [Ca, lk, Conc]
 | x :: l, vs, k, n, h => by
   simp only [ConcL] at h;obtain ⟨v, us, rfl, h1, h2⟩ := h;simp only [Ca, lk];split
   · rename_i e; subst e; simp; exact h1
   · rename_i e;have := Fc (k + 1) n h2;by_cases hk : k ≤ n
     · have hk' : k + 1 ≤ n := by omega
       rw [if_pos hk'] at this;rw [if_pos hk];have : n - k = (n - (k + 1)) + 1 := by omega
       rw [this]; simpa using Fc (k + 1) n h2 |> fun q => by rw [if_pos hk'] at q; exact q
     · rw [if_neg (by omega)] at this;rw [if_neg hk]; exact this
theorem RelR.obj (h : RelR F N ρ s a w) {l : Nat} {o : Obj} (o' : Obj) (hl : w.heap[l]? = some o) (ho : o.isCells = false) (hlt : l < F.w0.heap.size) (hM : ¬ F.M0 l) : RelR { F with w0 := F.w0.putObj l o' } N ρ s a (w.putObj l o') := by
 have hlw : l < w.heap.size := (Array.getElem?_eq_some_iff.1 hl).1;have hne : ∀ b, Bo ρ s.h b → b ≠ l := fun b hb e => by
  subst e;rcases h.may b hb with h1 | h1
  · omega
  · exact hM h1
 have hV : (Ai w (F.out ρ s.h)).le (Ai (w.putObj l o') (F.out ρ s.h)) := A4 fun b c ho' hc => by
  refine ⟨ho', ?_⟩;have : b ≠ l := fun e => by
   subst e;unfold Dr at hc;rw [hl] at hc;cases o <;> simp_all [Obj.isCells]
  rw [Cj (World.putObj_heap_other this)]; exact hc
 refine ⟨⟨h.fr.os, h.fr.tape, h.fr.output, by simpa using h.fr.size, fun b hb hm => ?_, fun b hb => by simpa using h.fr.hid b hb⟩, fun b hb => by simpa using h.may b hb, fun n x hx => ?_, h.inj, fun n => (h.tmps n).mono hV, h.size, h.defers⟩
 · by_cases e : b = l
   · subst e;rw [World.putObj_heap_same hlw, World.putObj_heap_same hlt]
   · rw [World.putObj_heap_other e, World.putObj_heap_other e];exact h.fr.block b (by simpa using hb) hm
 · exact (h.own n x hx).congr hV fun b hb => World.putObj_heap_other (hne b ⟨n, x, hx, hb⟩)
theorem Desc.back {F0 : Fr} (hd : Desc F0 F) (h : RelR F N ρ s a w) (h0 : F0.defs = []) : RelR F0 N ρ s ⟨a.tmps, []⟩ w := by
 have ho : F.out ρ s.h = F0.out ρ s.h := by unfold Fr.out; rw [hd.hid]
 have hb := hd.base;refine ⟨⟨h.fr.os.trans hb.os, h.fr.tape.trans hb.tape, h.fr.output.trans hb.output, Nat.le_trans hb.size h.fr.size, fun b hlt hm => ?_, hb.hid⟩, fun b hbb => hd.may b (h.may b hbb), fun n x hx => by rw [← ho]; exact h.own n x hx, h.inj, fun n => ?_, h.size, h0.symm⟩
 · rw [h.fr.block b (Nat.lt_of_lt_of_le hlt hb.size) fun e => ?_]
   · exact hb.block b hlt hm
   · rcases hd.may b (.inr e) with h1 | h1
     · omega
     · exact hm h1
 · rw [← ho];have := h.tmps n;unfold Fr.val at this ⊢;rw [← hd.x]; exact this
theorem Desc.refl {F0 : Fr} (hR : F0.ok F0.w0) (hm : ∀ b, F0.M0 b → b < F0.w0.heap.size) (h0 : F0.defs = []) : Desc F0 F0 := ⟨hR, hm, fun _ h => h, rfl, rfl, by rw [h0]; trivial⟩
theorem Aau {fn : Func} {rs : List Rv} (h5 : Ak (fn.results.toList.map (Xt P)) = some rs) {F0 : Fr} (h0 : F0.defs = []) {R : Ending → World → Prop} {tm : Array Value} {K : List SV → Prop} (hk : Jr s rs K)
 (hend : ∀ l v w, K l → RelR F0 N ρ s ⟨tm, []⟩ w → Conc (vw F0 w ρ s) ρ (one l) v → R (.returned v) w) :
 ∀ (ds : List Deferred) {F : Fr} {w : World}, Desc F0 { F with defs := [] } → Abx F0 F ds → RelR { F with defs := [] } N ρ s ⟨tm, []⟩ w → LeavesInM (Gd none) 0 P fn tm R ds .returning w
 | [], F, w, hd, _, hR => by
   have hR' := hd.back hR h0;obtain ⟨l, v, k1, k2, k3⟩ := Q0 (P := P) hR' h5 hk;exact ⟨v, k3, hend l v w k1 hR' k2⟩
 | d :: ds, F, w, hd, hm, hR => by
   obtain ⟨⟨D, rfl, g1, g2, g3, g4, g5⟩, hm⟩ := hm;have hw : w.heap[D]? = some (.deferred (some [])) := (hR.fr.block D g2 g3).trans g4;refine ⟨by simp, .inl ⟨D, _, rfl, run_takeDeferred hw, ?_⟩⟩;have hR2 := hR.obj (.deferred none) hw rfl g2 g3;refine Aau h5 h0 hk hend ds (F := { F with w0 := F.w0.putObj D (.deferred none) }) ⟨?_, fun b hb => by simpa using hd.m0 b hb, fun b hb => hd.may b (by simpa using hb), hd.hid, hd.x, trivial⟩ ?_ hR2
   · have hb := hd.base;refine ⟨hb.os, hb.tape, hb.output, by simpa using hb.size, fun b hlt hm => ?_, hb.hid⟩;show (F.w0.putObj D (.deferred none)).heap[b]? = _;rw [World.putObj_heap_other (by omega)];exact hb.block b hlt hm
   · clear hR hR2 hw
     induction ds with
     | nil => trivial
     | cons e ds ih =>
       obtain ⟨⟨E, rfl, k1, k2, k3, k4, k5⟩, hm⟩ := hm;have hne : E ≠ D := fun h => g5 _ List.mem_cons_self (by rw [h]);exact ⟨⟨E, rfl, k1, by simpa using k2, k3, by rw [World.putObj_heap_other hne]; exact k4, k5⟩, ih hm (fun e he => g5 e (List.mem_cons_of_mem _ he))⟩
theorem Ht (hm : P.follows .mixedOrders = true) {f N' : Nat} {rs : List Rv} {c : C} (hf : A7 P f = some (N', rs, c)) {F0 : Fr} {s0 : FS} {vs : List Value} (h0 : F0.defs = []) (hok : F0.ok F0.w0) (hm0 : ∀ b, F0.M0 b → b < F0.w0.heap.size)
 (hR : RelR F0 N' ρ s0 { tmps := (⟨vs⟩ : Array Value) ++ Array.replicate (N' - (⟨vs⟩ : Array Value).size) undef, defers := [] } w) {R : SV → FS → Prop} {Q : Cc} (hQ : ∀ e s, Q e s → (e = .normal ∨ e = .ret) ∧ Vl rs R s) (hrun : sx (Rt P F0 N') c Q s0) :
 Calls P f ⟨vs⟩ w fun e w' => ∃ v ρ' s' a' y, e = .returned v ∧ RelR F0 N' ρ' s' a' w' ∧ Conc (vw F0 w' ρ' s') ρ' y v ∧ R y s' := by
 obtain ⟨fn, code, h1, h2, h3, h4, h5, h6⟩ := Sc hf;subst h4;refine callsIn_wide.1 (callsIn_of_wp_marks (F := Gd none) (n := 0) h1 h3 trivial (wpIn_mono (Ku hm h6 hrun ⟨F0, Desc.refl hok hm0 h0, ρ, hR⟩) fun e a' w' he => ?_));have fin : (∃ s, RelX (Desc F0) fn.ntmps s a' w' ∧ Vl rs R s) → LeavesInM (Gd none) 0 P fn a'.tmps (fun e w' => ∃ v ρ' s' a' y, e = .returned v ∧ RelR F0 fn.ntmps ρ' s' a' w' ∧ Conc (vw F0 w' ρ' s') ρ' y v ∧ R y s') a'.defers .returning w' := fun ⟨s1, hX, s', hwk, hr⟩ => by
  obtain ⟨F, hd, ρ', hR'⟩ := hX.wk hwk;rw [hR'.defers];refine Aau h5 h0 hr (fun l v w k1 k2 k3 => ⟨v, ρ', s', _, _, rfl, k2, k3, k1⟩) F.defs (F := F) ⟨hd.base, hd.m0, hd.may, hd.hid, hd.x, trivial⟩ hd.marks ?_;exact ⟨⟨hR'.fr.os, hR'.fr.tape, hR'.fr.output, hR'.fr.size, hR'.fr.block, hR'.fr.hid⟩, hR'.may, hR'.own, hR'.inj, hR'.tmps, hR'.size, rfl⟩
 cases e with
 | normal => obtain ⟨s, h, hq⟩ := he; exact fin ⟨s, h, (hQ _ _ hq).2⟩
 | ret => obtain ⟨s, h, hq⟩ := he; exact fin ⟨s, h, (hQ _ _ hq).2⟩
 | exit id =>
   obtain ⟨s, h, hq⟩ := he;rcases (hQ _ _ hq).1 with e | e <;> cases e
 | goto _ => exact he.elim
 | panic _ => exact he.elim
 | outgrown => exact he.elim
theorem Wk.same (s : FS) : Wk s s := .weak ⟨fun n => Imp.refl _, fun n b hb => by
 rw [hb];simp only [Aig];cases b with
 | var x => exact ⟨Imp.refl _, rfl⟩
 | row sz es => exact ⟨rfl, rfl⟩
 | rowc sz es c => exact ⟨rfl, rfl, rfl⟩
 | it l p => exact ⟨rfl, rfl⟩⟩
theorem Jq {rs : List Rv} {R : SV → FS → Prop} (e : Ex) (s : FS) (h : A0r rs R e s) : (e = .normal ∨ e = .ret) ∧ Vl rs R s := by
 cases e with
 | normal => exact ⟨.inl rfl, s, .same s, h⟩
 | ret => exact ⟨.inr rfl, s, .same s, h⟩
 | exit _ => exact h.elim
theorem M5 {rs : List Rv} {R : SV → FS → Prop} (e : Ex) (s : FS) (h : Y8 rs R e s) : (e = .normal ∨ e = .ret) ∧ Vl rs R s := by
 cases e with
 | normal => exact ⟨.inl rfl, h⟩
 | ret => exact ⟨.inr rfl, h⟩
 | exit _ => exact h.elim
theorem Aee (hm : P.follows .mixedOrders = true) {f N' : Nat} {rs : List Rv} {c : C} (hf : A7 P f = some (N', rs, c)) {F0 : Fr} {s0 : FS} {vs : List Value} (h0 : F0.defs = []) (hok : F0.ok F0.w0) (hm0 : ∀ b, F0.M0 b → b < F0.w0.heap.size)
 (hR : RelR F0 N' ρ s0 { tmps := (⟨vs⟩ : Array Value) ++ Array.replicate (N' - (⟨vs⟩ : Array Value).size) undef, defers := [] } w) {R : SV → FS → Prop} (hrun : sx (Rt P F0 N') c (A0r rs R) s0) :
 Calls P f ⟨vs⟩ w fun e w' => ∃ v ρ' s' a' y, e = .returned v ∧ RelR F0 N' ρ' s' a' w' ∧ Conc (vw F0 w' ρ' s') ρ' y v ∧ R y s' := Ht hm hf h0 hok hm0 hR Jq hrun
theorem Ajh (hm : P.follows .mixedOrders = true) {f : Nat} {rs : List Rv} {c : C} (hf : A7 P f = some (N, rs, c)) {hid : Nat → Prop} (hhid : ∀ b, hid b → b < w.heap.size) {args : List SV} {vs : List Value} (hlen : args.length ≤ N)
 (hc : ConcL (Ai w hid) ρ args vs) {R : SV → FS → Prop} {Q : Cc} (hQ : ∀ e s, Q e s → (e = .normal ∨ e = .ret) ∧ Vl rs R s) (hrun : sx (Rt P ⟨w, fun _ => False, hid, fun _ => undef, []⟩ N) c Q (mk (Ca 0 args) [])) :
 Calls P f ⟨vs⟩ w fun e w' => ∃ v ρ' s' a' y, e = .returned v ∧ RelR ⟨w, fun _ => False, hid, fun _ => undef, []⟩ N ρ' s' a' w' ∧ Conc (vw ⟨w, fun _ => False, hid, fun _ => undef, []⟩ w' ρ' s') ρ' y v ∧ R y s' := by
 obtain ⟨fn, code, h1, h2, h3, h4, h5, h6⟩ := Sc hf;subst h4;have hN := Me hf;have hvl : vs.length = args.length := by
  clear hrun hlen
  induction args generalizing vs with
  | nil => simp only [ConcL] at hc; subst hc; rfl
  | cons x l ih =>
    simp only [ConcL] at hc;obtain ⟨v, us, rfl, _, h⟩ := hc;simp [ih h]
 have hR : RelR ⟨w, fun _ => False, hid, fun _ => undef, []⟩ fn.ntmps ρ (mk (Ca 0 args) []) { tmps := (⟨vs⟩ : Array Value) ++ Array.replicate (fn.ntmps - (⟨vs⟩ : Array Value).size) undef, defers := [] } w := by
  have how : ∀ b, ¬ Bo ρ (mk (Ca 0 args) []).h b := fun b ⟨n, x, h, _⟩ => by simp [mk, lk] at h
  have hV : (Ai w hid).le (Ai w ((⟨w, fun _ => False, hid, fun _ => undef, []⟩ : Fr).out ρ (mk (Ca 0 args) []).h)) :=
   A4 fun b c ho hc => ⟨fun hb => hb.elim (how b) ho, hc⟩
  refine ⟨⟨rfl, rfl, rfl, Nat.le_refl _, fun _ _ _ => rfl, fun b hb => ⟨hhid b hb, id⟩⟩, fun b hb => absurd hb (how b), fun n x hx => by simp [mk, lk] at hx, fun n m x y b hx => by simp [mk, lk] at hx, fun n => ?_, by simp; omega, rfl⟩;have := (Fc 0 n hc).mono hV;simp only [Nat.zero_le, if_true, Nat.sub_zero] at this;simp only [mk];have he : ((⟨vs⟩ : Array Value) ++ Array.replicate (fn.ntmps - (⟨vs⟩ : Array Value).size) undef).getD n undef = (vs[n]?).getD undef := by
   rw [Array.getD_eq_getD_getElem?];by_cases hn : n < vs.length
   · rw [Array.getElem?_append_left (by simpa using hn)]; simp
   · rw [Array.getElem?_append_right (by simpa using hn)];rw [List.getElem?_eq_none (by omega)];simp only [Array.getElem?_replicate, Option.getD_none];split <;> rfl
  unfold Fr.val;by_cases hb : n < Gj
  · rw [if_pos hb, he]; exact this
  · rw [if_neg hb];rw [List.getElem?_eq_none (by omega)] at this; exact this
 exact Ht hm hf rfl (by exact ⟨rfl, rfl, rfl, Nat.le_refl _, fun _ _ _ => rfl, fun b hb => ⟨hhid b hb, id⟩⟩) (fun b (h : False) => h.elim) hR hQ hrun
end Go.Proofs.Ythmjebkldgdeiaa.Fw
namespace Go.Proofs.Ythmjebkldgdeiaa.Fw
open Go.RowKit
variable {P : Program} {F : Fr} {N : Nat} {ρ ρ' : Nat → Value} {s : FS} {a : Act} {w w' : World} {V V' : View}
mutual
def SV.closed : SV → Bool
 | .pv _ => true
 | .vec _ _ => true
 | .agg l => SV.closedL l
 | .tup l => SV.closedL l
 | .pi _ _ _ _ => true
 | .fn _ l => SV.closedL l
 | .dead => true
 | _ => false
def SV.closedL : List SV → Bool
 | [] => true
 | x :: l => x.closed && SV.closedL l
end
mutual
theorem Bf (hV : V.le V') : ∀ {x : SV} {v : Value}, x.closed = true → Conc V ρ x v → Conc V' ρ' x v
 | .pv x, v, _, h => by simp only [Conc] at *; exact h.mono hV
 | .vec n cs, v, _, h => by simp only [Conc] at *; obtain ⟨vs, a, b, c⟩ := h; exact ⟨vs, a, b, c.mono hV⟩
 | .agg l, v, hc, h => by simp only [Conc, SV.closed] at *; obtain ⟨vs, a, b⟩ := h; exact ⟨vs, a, Ci hV hc b⟩
 | .tup l, v, hc, h => by simp only [Conc, SV.closed] at *; obtain ⟨vs, a, b⟩ := h; exact ⟨vs, a, Hf hV hc b⟩
 | .pi sz es i off, v, _, h => by
   have := Conc.mono (ρ := ρ) hV h;simp only [Conc] at *; exact this
 | .fn f l, v, hc, h => by simp only [Conc, SV.closed] at *; obtain ⟨vs, a, b⟩ := h; exact ⟨vs, a, Hf hV hc b⟩
 | .dead, v, _, h => by simp only [Conc]
 | .p _ _, v, hc, h => by simp [SV.closed] at hc
 | .ps _ _, v, hc, h => by simp [SV.closed] at hc
 | .pr _ _ _ _, v, hc, h => by simp [SV.closed] at hc
 | .os _, v, hc, h => by simp [SV.closed] at hc
 | .ov _ _ _ _, v, hc, h => by simp [SV.closed] at hc
theorem Hf (hV : V.le V') : ∀ {l : List SV} {vs : List Value}, SV.closedL l = true → ConcL V ρ l vs → ConcL V' ρ' l vs
 | [], vs, _, h => by simp only [ConcL] at *; exact h
 | x :: l, vs, hc, h => by
   simp only [ConcL, SV.closedL, Bool.and_eq_true] at *;obtain ⟨u, us, a, b, c⟩ := h;exact ⟨u, us, a, Bf hV hc.1 b, Hf hV hc.2 c⟩
theorem Ci (hV : V.le V') : ∀ {l : List SV} {vs : List Value}, SV.closedL l = true → Cells V ρ l vs → Cells V' ρ' l vs
 | [], vs, _, h => by simp only [Cells] at *; exact h
 | x :: l, vs, hc, h => by
   simp only [Cells, SV.closedL, Bool.and_eq_true] at *;obtain ⟨u, us, a, b, c, d, e⟩ := h;exact ⟨u, us, a, Bf hV hc.1 b, c, d, Ci hV hc.2 e⟩
end
def PV.flat : PV → Bool
 | .sl _ _ es => es.isEmpty
 | _ => true
mutual
def SV.scalar : SV → Bool
 | .pv x => x.flat
 | .vec _ cs => cs.all PV.flat
 | .agg l => SV.scalarL l
 | .tup l => SV.scalarL l
 | _ => false
def SV.scalarL : List SV → Bool
 | [] => true
 | x :: l => x.scalar && SV.scalarL l
end
theorem Wo {x : PV} {v : Value} (hf : x.flat = true) (h : PConc V x v) : PConc V' x v := by
 cases h with
 | i k n => exact .i k n
 | b x => exact .b x
 | s l => exact .s l
 | v _ h => exact .v _ h
 | sl full sz es a cap cs bl off arr hcap hfull hsz ha hcs hel =>
   have he : es = [] := by cases es <;> simp_all [PV.flat]
   subst he;exact .sl full sz [] a cap cs bl off arr hcap hfull hsz (fun h => absurd rfl h) hcs (fun i j c x h => by simp at h)
theorem Nh {cs : List PV} {vs : List Value} (hf : cs.all PV.flat = true) (h : PCells V cs vs) : PCells V' cs vs :=
 ⟨h.1, fun j x hx => by
  obtain ⟨v, h1, h2⟩ := h.2 j x hx;exact ⟨v, h1, Wo (List.all_eq_true.1 hf x (List.mem_of_getElem? hx)) h2⟩⟩
mutual
theorem H4 : ∀ {x : SV} {v : Value}, x.scalar = true → Conc V ρ x v → Conc V' ρ' x v
 | .pv x, v, hc, h => by
   simp only [Conc, SV.scalar] at hc h ⊢;exact Wo hc h
 | .vec n cs, v, hc, h => by
   simp only [Conc, SV.scalar] at hc h ⊢;obtain ⟨vs, a, b, c⟩ := h;exact ⟨vs, a, b, Nh hc c⟩
 | .agg l, v, hc, h => by simp only [Conc, SV.scalar] at *; obtain ⟨vs, a, b⟩ := h; exact ⟨vs, a, N1 hc b⟩
 | .tup l, v, hc, h => by simp only [Conc, SV.scalar] at *; obtain ⟨vs, a, b⟩ := h; exact ⟨vs, a, N0 hc b⟩
 | .pi _ _ _ _, v, hc, h => by simp [SV.scalar] at hc
 | .fn _ _, v, hc, h => by simp [SV.scalar] at hc
 | .dead, v, hc, h => by simp [SV.scalar] at hc
 | .p _ _, v, hc, h => by simp [SV.scalar] at hc
 | .ps _ _, v, hc, h => by simp [SV.scalar] at hc
 | .pr _ _ _ _, v, hc, h => by simp [SV.scalar] at hc
 | .os _, v, hc, h => by simp [SV.scalar] at hc
 | .ov _ _ _ _, v, hc, h => by simp [SV.scalar] at hc
theorem N0 : ∀ {l : List SV} {vs : List Value}, SV.scalarL l = true → ConcL V ρ l vs → ConcL V' ρ' l vs
 | [], vs, _, h => by simp only [ConcL] at *; exact h
 | x :: l, vs, hc, h => by
   simp only [ConcL, SV.scalarL, Bool.and_eq_true] at *;obtain ⟨u, us, a, b, c⟩ := h;exact ⟨u, us, a, H4 hc.1 b, N0 hc.2 c⟩
theorem N1 : ∀ {l : List SV} {vs : List Value}, SV.scalarL l = true → Cells V ρ l vs → Cells V' ρ' l vs
 | [], vs, _, h => by simp only [Cells] at *; exact h
 | x :: l, vs, hc, h => by
   simp only [Cells, SV.scalarL, Bool.and_eq_true] at *;obtain ⟨u, us, a, b, c, d, e⟩ := h;exact ⟨u, us, a, H4 hc.1 b, c, d, N1 hc.2 e⟩
end
def Ana (x : SV) (off : Nat) : Option (List PV) → SV
 | some cs => .pi x.width [cs] 0 off
 | none => .dead
mutual
def Jw (h : Nat → Option Blk) : SV → SV
 | .os n => match h n with
   | some (.row sz es) => .pv (.sl false sz es)
   | _ => .dead
 | .p n off => match h n with
   | some (.var x) => Ana x off x.cells?
   | _ => .dead
 | .fn f l => .fn f (Cl h l)
 | x => x
def Cl (h : Nat → Option Blk) : List SV → List SV
 | [] => []
 | x :: l => Jw h x :: Cl h l
end
mutual
def Kl : SV → Bool
 | .os _ => true
 | .p _ _ => true
 | .fn _ l => Ba l
 | x => x.closed
def Ba : List SV → Bool
 | [] => true
 | x :: l => Kl x && Ba l
end
mutual
def Kk : SV → List Nat
 | .os n => [n]
 | .p n _ => [n]
 | .fn _ l => A9 l
 | _ => []
def A9 : List SV → List Nat
 | [] => []
 | x :: l => Kk x ++ A9 l
end
def A1 (s : FS) (ns : List Nat) : FS := ⟨s.t, fun n => if n ∈ ns then none else s.h n⟩
theorem We (h : Nat → Option Blk) : ∀ l : List SV, (Cl h l).length = l.length
 | [] => by simp only [Cl]
 | x :: l => by simp only [Cl, List.length_cons, We h l]
theorem Nt (s : FS) (ns : List Nat) : Weak s (A1 s ns) := ⟨fun n => .refl _, fun n b' hb => by
 simp only [A1] at hb;split at hb
 · cases hb
 · rw [hb]; simp only [Aig];cases b' with
   | var x => exact ⟨.refl _, rfl⟩
   | row sz es => exact ⟨rfl, rfl⟩
   | rowc sz es c => exact ⟨rfl, rfl, rfl⟩
   | it l p => exact ⟨rfl, rfl⟩⟩
theorem E5 (F : Fr) (w : World) (ρ : Nat → Value) (s : FS) (ns : List Nat) : (vw F w ρ s).le (vw F w ρ (A1 s ns)) := A4 fun b c ho hc => ⟨fun hb => ho (hb.imp_left fun ⟨n, x, h1, h2⟩ => by
 simp only [A1] at h1;split at h1
 · cases h1
 · exact ⟨n, x, h1, h2⟩), hc⟩
mutual
theorem Ah1 (hR : RelR F N ρ s a w) {h : Nat → Option Blk} {ns : List Nat} : ∀ {x : SV} {v : Value}, Kl x = true → (∀ n ∈ tn x, s.h n = h n) → (∀ n ∈ Kk x, n ∈ ns) →
 Conc (vw F w ρ s) ρ x v → Conc (vw F w ρ (A1 s ns)) ρ (Jw h x) v
 | .os n, v, hl, hh, hn, h1 => by
   simp only [Jw];have hhn := hh n (by simp [tn]);have hns := hn n (by simp [Kk]);split
   · rename_i sz es hrow;rw [← hhn] at hrow;simp only [Conc] at h1 ⊢;rw [h1.1];have := Jo hR hrow;refine this.mono (A4 fun b c ho hc => ⟨fun hb => ho (hb.imp_left fun ⟨m, x, g1, g2⟩ => ?_), hc⟩);simp only [A1] at g1;split at g1
     · cases g1
     · rename_i hm;refine ⟨m, x, ?_, g2⟩;simp only [FS.seth];rw [if_neg fun e => hm (by rw [e]; exact hns)];exact g1
   · simp only [Conc]
 | .p n off, v, hl, hh, hn, h1 => by
   simp only [Jw];have hhn := hh n (by simp [tn]);have hns := hn n (by simp [Kk]);split
   · rename_i x hvar;rw [← hhn] at hvar;cases hcs : x.cells? with
     | none => simp only [Ana, Conc]
     | some cs =>
       simp only [Conc] at h1;obtain ⟨b, hb, rfl⟩ := h1;obtain ⟨b', vs, ty, fr, u, k1, k2, k3, k4, k5, k6, k7⟩ := hR.own n _ hvar;rw [k1] at hb;simp only [Value.pointer.injEq, Option.some.injEq, Addr.mk.injEq, and_true] at hb;subst hb;have hp := Conc.cells k4 hcs;simp only [Ana, Conc];refine ⟨b', 0, ⟨vs⟩, by simp, ?_, fun c hc => ?_⟩
       · unfold vw Ai;rw [if_neg]
         · unfold Dr; rw [k2]
         · rintro (⟨m, y, g1, g2⟩ | g)
           · simp only [A1] at g1;split at g1
             · cases g1
             · rename_i hm;exact hm ((hR.inj m n y _ b' g1 hvar g2 (by rw [k1]; rfl)) ▸ hns)
           · exact hR.shown ⟨n, _, hvar, by rw [k1]; rfl⟩ g
       · simp only [List.getElem?_cons_zero, Option.some.injEq] at hc;subst hc;have hl : cs.length = x.width := by rw [hp.1, ← k5]; exact k6
         refine ⟨hl, ?_⟩;have e : (vs.drop (0 + 0 * x.width)).take x.width = vs := by simp [k6 ▸ List.take_length]
         rw [e, k5];exact hp.mono (E5 F w ρ s ns)
   · simp only [Conc]
 | .fn f l, v, hl, hh, hn, h1 => by
   simp only [Jw, Conc] at *;obtain ⟨vs, rfl, h2⟩ := h1;exact ⟨vs, rfl, Nc hR (by simpa [Kl] using hl) (fun n hm => hh n (by simp only [tn]; exact hm)) (fun n hm => hn n (by simpa [Kk] using hm)) h2⟩
 | .pv x, v, hl, _, _, h1 => Bf (E5 F w ρ s ns) rfl h1
 | .vec n cs, v, hl, _, _, h1 => Bf (E5 F w ρ s ns) rfl h1
 | .agg l, v, hl, _, _, h1 => by
   have e : Jw h (.agg l) = .agg l := by simp only [Jw]
   rw [e];exact Bf (E5 F w ρ s ns) (by simpa only [Kl] using hl) h1
 | .tup l, v, hl, _, _, h1 => by
   have e : Jw h (.tup l) = .tup l := by simp only [Jw]
   rw [e];exact Bf (E5 F w ρ s ns) (by simpa only [Kl] using hl) h1
 | .pi _ _ _ _, v, hl, _, _, h1 => Bf (E5 F w ρ s ns) rfl h1
 | .dead, v, hl, _, _, h1 => Bf (E5 F w ρ s ns) rfl h1
 | .ps _ _, v, hl, _, _, h1 => by simp [Kl, SV.closed] at hl
 | .pr _ _ _ _, v, hl, _, _, h1 => by simp [Kl, SV.closed] at hl
 | .ov _ _ _ _, v, hl, _, _, h1 => by simp [Kl, SV.closed] at hl
theorem Nc (hR : RelR F N ρ s a w) {h : Nat → Option Blk} {ns : List Nat} : ∀ {args : List SV} {vs : List Value}, Ba args = true → (∀ n ∈ Aw args, s.h n = h n) → (∀ n ∈ A9 args, n ∈ ns) →
 ConcL (vw F w ρ s) ρ args vs → ConcL (vw F w ρ (A1 s ns)) ρ (Cl h args) vs
 | [], vs, _, _, _, hc => by simp only [ConcL, Cl] at *; exact hc
 | x :: l, vs, hl, hh, hn, hc => by
   simp only [ConcL, Cl, Ba, Bool.and_eq_true, A9, List.mem_append] at *;obtain ⟨u, us, rfl, h1, h2⟩ := hc;exact ⟨u, us, rfl, Ah1 hR hl.1 (fun n hm => hh n (by simp only [Aw, List.mem_append]; exact .inl hm)) (fun n hm => hn n (.inl hm)) h1, Nc hR hl.2 (fun n hm => hh n (by simp only [Aw, List.mem_append]; exact .inr hm)) (fun n hm => hn n (.inr hm)) h2⟩
end
structure After (F : Fr) (N : Nat) (ρ : Nat → Value) (s : FS) (ns : List Nat) (a : Act) (w : World) (R : SV → FS → Prop) (v : Value) (w' : World) : Prop where
 grew : Grew w w'
 out : ∃ (N' : Nat) (ρ' : Nat → Value) (s' : FS) (a' : Act) (y : SV), RelR ⟨w, fun _ => False, F.out ρ (A1 s ns).h, fun _ => undef, []⟩ N' ρ' s' a' w' ∧ Conc (vw ⟨w, fun _ => False, F.out ρ (A1 s ns).h, fun _ => undef, []⟩ w' ρ' s') ρ' y v ∧ R y s'
theorem Cs (hm : P.follows .mixedOrders = true) {f N' : Nat} {rs : List Rv} {c : C} (hf : A7 P f = some (N', rs, c)) {args : List SV} {h : Nat → Option Blk} (hlen : args.length ≤ N') (hl : Ba args = true)
 {R : SV → FS → Prop} {Q : Cc} (hQ : ∀ e s, Q e s → (e = .normal ∨ e = .ret) ∧ Vl rs R s) (hrun : ∀ F, sx (Rt P F N') c Q (mk (Ca 0 (Cl h args)) []))
 (hR : RelR F N ρ s a w) (hh : ∀ n ∈ Aw args, s.h n = h n) {vs : List Value} (hc : ConcL (vw F w ρ s) ρ args vs) :
 Calls P f ⟨vs⟩ w fun e w' => ∃ v, e = .returned v ∧ After F N ρ s (A9 args) a w R v w' := by
 have hRb := hR.weak (Nt s (A9 args));have hcb := Nc hR (ns := A9 args) hl hh (fun _ h => h) hc;refine Calls.mono (Ajh hm hf (hid := F.out ρ (A1 s (A9 args)).h) (fun b hb => ?_) (by rw [We]; exact hlen) hcb hQ (hrun _)) fun e w' he => ?_
 · rcases hb with hb | hb
   · exact hRb.lt hb
   · exact Nat.lt_of_lt_of_le (hR.fr.hid b hb).1 hR.fr.size
 · obtain ⟨v, ρ', s', a', y, rfl, h1, h2, h3⟩ := he;exact ⟨v, rfl, ⟨h1.fr.os, h1.fr.tape, h1.fr.output, h1.fr.size, fun b hb => h1.fr.block b hb id⟩, N', ρ', s', a', y, h1, h2, h3⟩
theorem Ds {N' : Nat} {ρ' : Nat → Value} {s' : FS} {a' : Act} (hR' : RelR ⟨w, fun _ => False, F.out ρ s.h, fun _ => undef, []⟩ N' ρ' s' a' w') : (vw ⟨w, fun _ => False, F.out ρ s.h, fun _ => undef, []⟩ w' ρ' s').le (vw F w' ρ s) :=
 A4 fun b c ho hc => ⟨fun hb => ho (.inr hb), hc⟩
mutual
theorem Ah2 : ∀ {x : SV}, x.closed = true → Kk x = [] ∧ Kl x = true ∧ ∀ h, Jw h x = x
 | .fn f l, hc => by
   simp only [SV.closed] at hc;obtain ⟨h1, h2, h3⟩ := Bl hc;exact ⟨by simp only [Kk]; exact h1, by simp only [Kl]; exact h2, fun h => by simp only [Jw, h3 h]⟩
 | .pv _, hc => ⟨rfl, rfl, fun h => by simp only [Jw]⟩
 | .vec _ _, hc => ⟨rfl, rfl, fun h => by simp only [Jw]⟩
 | .agg _, hc => ⟨rfl, by simp only [Kl]; exact hc, fun h => by simp only [Jw]⟩
 | .tup _, hc => ⟨rfl, by simp only [Kl]; exact hc, fun h => by simp only [Jw]⟩
 | .pi _ _ _ _, hc => ⟨rfl, rfl, fun h => by simp only [Jw]⟩
 | .dead, hc => ⟨rfl, rfl, fun h => by simp only [Jw]⟩
 | .p _ _, hc => by simp [SV.closed] at hc
 | .ps _ _, hc => by simp [SV.closed] at hc
 | .pr _ _ _ _, hc => by simp [SV.closed] at hc
 | .os _, hc => by simp [SV.closed] at hc
 | .ov _ _ _ _, hc => by simp [SV.closed] at hc
theorem Bl : ∀ {args : List SV}, SV.closedL args = true → A9 args = [] ∧ Ba args = true ∧ ∀ h, Cl h args = args
 | [], _ => ⟨by simp only [A9], by simp only [Ba], fun _ => by simp only [Cl]⟩
 | x :: l, hc => by
   simp only [SV.closedL, Bool.and_eq_true] at hc;obtain ⟨g1, g2, g3⟩ := Ah2 hc.1;obtain ⟨h1, h2, h3⟩ := Bl hc.2;exact ⟨by simp only [A9, g1, h1]; rfl, by simp only [Ba, g2, h2]; rfl, fun h => by simp only [Cl, g3 h, h3 h]⟩
end
theorem Ck (s : FS) : A1 s [] = s := by simp [A1]
theorem Bs {f : Nat} {rs : List Rv} {c : C} (hf : A7 P f = some (N, rs, c)) : Pg P f := by
 obtain ⟨fn, code, h1, h2, h3, _⟩ := Sc hf;exact ⟨fn, h1, h2, by rw [h3]; rfl⟩
theorem A5 (hm : P.follows .mixedOrders = true) {f N' : Nat} {rs : List Rv} {c : C} (hf : A7 P f = some (N', rs, c)) {args : List SV} {h : Nat → Option Blk} {d : Nat} {x : SV} (hlen : args.length ≤ N')
 (hargs : SV.closedL args = true) (hx : x.closed = true) (hrun : ∀ F, sx (Rt P F N') c (Qq rs fun y _ => y = x) (mk (Ca 0 args) [])) : FunOk P f args h d x [] := by
 obtain ⟨h1, h2, h3⟩ := Bl hargs;refine ⟨Bs hf, fun F N ρ s a w hR hh vs hc => ?_⟩;refine Calls.mono (Cs hm hf (h := h) hlen h2 Jq (by rw [h3]; exact hrun) hR hh hc) fun e w' he => ?_;obtain ⟨v, rfl, hg, N'', ρ', s', a', y, hR', hy, rfl⟩ := he;rw [h1, Ck] at hR' hy;exact ⟨v, ρ, rfl, hR.grew hg, Bf (Ds hR') hx hy⟩
theorem Cp (hm : P.follows .mixedOrders = true) {f N' : Nat} {rs : List Rv} {c : C} (hf : A7 P f = some (N', rs, c)) {args : List SV} {h : Nat → Option Blk} {d : Nat} {x : SV} (hlen : args.length ≤ N')
 (hargs : Ba args = true) (hx : x.scalar = true) (hrun : ∀ F, sx (Rt P F N') c (Qq rs fun y _ => y = x) (mk (Ca 0 (Cl h args)) [])) : FunOk P f args h d x [] := by
 refine ⟨Bs hf, fun F N ρ s a w hR hh vs hc => ?_⟩;refine Calls.mono (Cs hm hf (h := h) hlen hargs Jq hrun hR hh hc) fun e w' he => ?_;obtain ⟨v, rfl, hg, N'', ρ', s', a', y, hR', hy, rfl⟩ := he;exact ⟨v, ρ, rfl, hR.grew hg, H4 hx hy⟩
theorem Af9 (hm : P.follows .mixedOrders = true) {f N' : Nat} {rs : List Rv} {c : C} (hf : A7 P f = some (N', rs, c)) {args : List SV} {h : Nat → Option Blk} {d : Nat} {sz : Nat} {es : List (List PV)} (hlen : args.length ≤ N')
 (hargs : Ba args = true) (hx : SV.closedL args = true ∨ ∀ c ∈ es, c.all PV.flat = true) (hrun : ∀ F, sx (Rt P F N') c (Qq rs fun y g => ∃ n, y = .os n ∧ g n = some (.row sz es)) (mk (Ca 0 (Cl h args)) [])) :
 FunOk P f args h d (.os d) [.new d (.row sz es)] := by
 refine ⟨Bs hf, fun F N ρ s a w hR hh vs hc => ?_⟩;refine Calls.mono (Cs hm hf (h := h) hlen hargs Jq hrun hR hh hc) fun e w' he => ?_;obtain ⟨v, rfl, hg, N'', ρ', s', a', y, hR', hy, n, rfl, hn⟩ := he;simp only [Conc] at hy;obtain ⟨base, cap, g1, g2, g3, g4, g5⟩ := hR'.own n _ hn;have hown : ∀ b, Bm (ρ' n) = some b → w.heap.size ≤ b ∧ b < w'.heap.size := fun b hb => by
  have ho : Bo ρ' s'.h b := ⟨n, _, hn, hb⟩
  exact ⟨(hR'.may b ho).resolve_right id, hR'.lt ho⟩
 have hnew := hR.adopt hg d (.row sz es) (ρ' n) hown fun hV => by
  refine ⟨base, cap, by rw [Al]; exact g1, g2, g3, g4, fun hcap => ?_⟩;obtain ⟨b, vs', ty, fr, k1, k2, k3, k4, k5, k6⟩ := g5 hcap;refine ⟨b, vs', ty, fr, k1, k2, k3, k4, k5, fun i c hi => ?_⟩;rcases hx with hx | hx
  · obtain ⟨e1, _, _⟩ := Bl hx;rw [e1, Ck] at hR' k6;refine (k6 i c hi).mono (A4 fun b' c' ho hc' => ⟨fun hb' => ?_, hc'⟩);rcases hb' with ⟨m, z, hm1, hm2⟩ | hb'
    · by_cases hmd : m = d
      · subst hmd;rw [Al] at hm2;exact ho (.inl ⟨n, _, hn, hm2⟩)
      · rw [A6 hmd] at hm2;simp only [FS.seth, FS.kill, hmd, if_false] at hm1;obtain ⟨z', hz', _⟩ := Option.map_eq_some_iff.1 hm1;exact ho (.inr (.inl ⟨m, z', hz', hm2⟩))
    · exact ho (.inr (.inr hb'))
  · exact Nh (hx c (List.mem_of_getElem? hi)) (k6 i c hi)
 refine ⟨v, _, rfl, hnew.1, ?_⟩;simp only [Conc];exact ⟨by rw [Al]; exact hy.1, hy.2⟩
end Go.Proofs.Ythmjebkldgdeiaa.Fw
namespace Go.Proofs.Ythmjebkldgdeiaa.Fw
open Go.RowKit
theorem Asu {α : Type} (I : α → FS) (J : α → Prop) (m : α → Nat) (x : α) (Q : Cc) (s) : Aft I J m x Q .normal s = ∃ y, J y ∧ m y < m x ∧ Wk s (I y) := (rfl)
theorem Asv {α : Type} (I : α → FS) (J : α → Prop) (m : α → Nat) (x : α) (Q : Cc) (s i) : Aft I J m x Q (.exit i) s = Q (.exit i) s := (rfl)
theorem Ast {α : Type} (I : α → FS) (J : α → Prop) (m : α → Nat) (x : α) (Q : Cc) (s) : Aft I J m x Q .ret s = Q .ret s := (rfl)
theorem Aw7 (rs R s) : Qq rs R .ret s = Jr s rs fun l => R (one l) s.h := (rfl)
theorem Alq (s K) : Jr s [] K = K [] := (rfl)
theorem Aw8 (s n rs K) : Jr s (.t n :: rs) K = Jr s rs fun l => K (s.t n :: l) := (rfl)
def Afg (s : FS) (rs : List Rv) (K : List SV → Prop) : KK := fun x u => u = [] ∧ Jr s rs fun l => K (x :: l)
theorem Aw9 (s a size ag rs K) : Jr s (.c a size ag :: rs) K = G8 s.h size ag (s.t a) (Afg s rs K) := (rfl)
theorem Acx (s rs K x u) : Afg s rs K x u = (u = [] ∧ Jr s rs fun l => K (x :: l)) := (rfl)
theorem A1s (x) : one [x] = x := (rfl)
theorem A1r (x y l) : one (x :: y :: l) = .tup (x :: y :: l) := (rfl)
theorem Ap4 (k) : Ca k [] = [] := (rfl)
theorem Ajp (k x l) : Ca k (x :: l) = (k, x) :: Ca (k + 1) l := (rfl)
theorem Ah0 (h) : Cl h [] = [] := (rfl)
theorem Adi (h x l) : Cl h (x :: l) = Jw h x :: Cl h l := (rfl)
theorem As0 (h x) : Jw h (.pv x) = .pv x := (rfl)
theorem Anz (s) : Aa2 s [] = True := (rfl)
theorem Aic (s n x l) : Aa2 s ((n, x) :: l) = (Imp (s.t n) x ∧ Aa2 s l) := (rfl)
theorem An0 (s) : Rr s [] = True := (rfl)
theorem Aie (s n l) : Rr s ((n, none) :: l) = Rr s l := (rfl)
theorem Aid (s n b l) : Rr s ((n, some b) :: l) = (Aig (s.h n) b ∧ Rr s l) := (rfl)
theorem Aif (x y) : Aig (some x) y = Aj2 x y := (rfl)
theorem An2 (a b c d) : Aj2 (.row a b) (.row c d) = (a = c ∧ b = d) := (rfl)
theorem An1 (x y) : Aj2 (.var x) (.var y) = (Imp x y ∧ x.width = y.width) := (rfl)
theorem Any (x) : Imp x x = True := eq_true (Imp.refl x)
theorem Ass (n m : Nat) (l : List Nat) : (n ∈ m :: l) = (n = m ∨ n ∈ l) := propext List.mem_cons
theorem Vt (l : List UInt8) : (A3 l).length = l.length := by simp [A3]
theorem Ake {n : Int} (h : 0 ≤ n ∧ n < 4294967296) : IntKind.u32.wrap n = n := by
 simp [IntKind.wrap, IntKind.signed, IntKind.bits]; omega
theorem Akd {n : Int} (h : 0 ≤ n ∧ n < 18446744073709551616) : IntKind.u64.wrap n = n := by
 simp [IntKind.wrap, IntKind.signed, IntKind.bits]; omega
theorem Akf {n : Int} (h : -9223372036854775808 ≤ n ∧ n < 9223372036854775808) : IntKind.i64.wrap n = n := by
 simp [IntKind.wrap, IntKind.signed, IntKind.bits]; omega
mutual
theorem Abb (n : Nat) : ∀ {x : SV}, x.closed = true → x.kill n = x
 | .pv _, _ => by simp only [SV.kill]
 | .vec _ _, _ => by simp only [SV.kill]
 | .agg l, h => by simp only [SV.closed] at h; simp only [SV.kill, Fo n h]
 | .tup l, h => by simp only [SV.closed] at h; simp only [SV.kill, Fo n h]
 | .pi _ _ _ _, _ => by simp only [SV.kill]
 | .fn f l, h => by simp only [SV.closed] at h; simp only [SV.kill, Fo n h]
 | .dead, _ => by simp only [SV.kill]
 | .p _ _, h => by simp [SV.closed] at h
 | .ps _ _, h => by simp [SV.closed] at h
 | .pr _ _ _ _, h => by simp [SV.closed] at h
 | .os _, h => by simp [SV.closed] at h
 | .ov _ _ _ _, h => by simp [SV.closed] at h
theorem Fo (n : Nat) : ∀ {l : List SV}, SV.closedL l = true → SV.killL n l = l
 | [], _ => by simp only [SV.killL]
 | x :: l, h => by
   simp only [SV.closedL, Bool.and_eq_true] at h;simp only [SV.killL, Abb n h.1, Fo n h.2]
end
theorem Aa {P : Program} {E : Env} {f : Nat} {args : List SV} {h : Nat → Option Blk} {d : Nat} {x : SV} {u : List HU} {K : KK} (hf : FunOk P f args h d x u) (hk : K x u) (hE : E.call = Aez P := by rfl) : Lm E f args h d K := ⟨x, u, .inl (hE ▸ .inl hf), hk⟩
theorem Ga {P : Program} {r : Option Nat} {X : Frs} {N f : Nat} {args : List SV} {h : Nat → Option Blk} {d : Nat} {x : SV} {u : List HU} {K : KK} (hf : DeepOk P f args h d x u) (hk : K x u) : Lm (Hq P r X N) f args h d K := ⟨x, u, .inr hf, hk⟩
theorem Pa {P : Program} {E : Env} {f : Nat} {args : List SV} {h : Nat → Option Blk} {d : Nat} {x : SV} {K : KK} (hf : Xe P f args h x) (hk : K x []) (hE : E.call = Aez P := by rfl) : Lm E f args h d K := ⟨x, [], .inl (hE ▸ .inr ⟨rfl, hf⟩), hk⟩
theorem Ar4 (w : World) : RelR ⟨w, fun _ => False, fun _ => False, fun _ => undef, []⟩ 0 (fun _ => undef) ⟨fun _ => .dead, fun _ => none⟩ ⟨#[], []⟩ w :=
 ⟨⟨rfl, rfl, rfl, Nat.le_refl _, fun _ _ _ => rfl, fun _ h => h.elim⟩, fun b ⟨n, x, h, _⟩ => by simp at h, fun n x h => by simp at h, fun n m x y b h => by simp at h, fun n => by simp only [Conc], rfl, rfl⟩
theorem FunOk.law {P : Program} {f : Nat} {args : List SV} {h d} (hf : FunOk P f args h d (.pv (.b true)) []) (hc : SV.closedL args = true) {w : World} {vs : List Value} {ρ : Nat → Value} (hv : ConcL (Ai w fun _ => False) ρ args vs) :
 Calls P f ⟨vs⟩ w fun e w' => e = .returned (.bool true) ∧ Below w.heap.size w w' := by
 have ht : Aw args = [] := by
  cases hx : Aw args with
  | nil => rfl
  | cons n l =>
    have : SV.killL n args = args := by
     have key : ∀ (l : List SV), SV.closedL l = true → ∀ n, SV.killL n l = l := fun l hl n => Fo n hl;exact key args hc n
    exact absurd (by rw [hx]; simp) (Iw this)
 have hV : (Ai w fun _ => False).le (vw ⟨w, fun _ => False, fun _ => False, fun _ => undef, []⟩ w (fun _ => undef) ⟨fun _ => .dead, fun _ => none⟩) :=
  A4 fun b c _ hb => ⟨fun hh => hh.elim (fun ⟨n, x, h, _⟩ => by simp at h) id, hb⟩
 refine Calls.mono (hf.2 _ 0 _ _ _ w (Ar4 w) (by rw [ht]; simp) vs (Hf hV hc hv)) fun e w' he => ?_;obtain ⟨v, ρ', rfl, hR, hy⟩ := he;exact ⟨by rw [Ov hy], hR.fr.os, hR.fr.tape, hR.fr.output, hR.fr.size, fun b hb => hR.fr.block b hb id⟩
end Go.Proofs.Ythmjebkldgdeiaa.Fw
namespace Go.Proofs.Ythmjebkldgdeiaa.Fw
open Go.RowKit
variable (E : Env)
def brK (a : C) (Q : Cc) (s : FS) : Prop := sx E a Q s
def gdK (k : Kd) (x : List Opd) (d : Nat) (l : List I) (Q : Cc) (s : FS) : Prop := body E k x d s (Rd E (some d) l Q s)
def skK (d : Option Nat) (l : List I) (Q : Cc) (s : FS) : Prop := Zn E l Q (s.apply d (.tup []) [])
def gdA (D : List Nat) (c : Nat) (k : Kd) (x : List Opd) (d : Nat) (l : List (I × Nat × List Nat)) (Q : Cc) (s : FS) : Prop := body E k x d s (Ie E D c (some d) l Q s)
def skA (D : List Nat) (c : Nat) (d : Option Nat) (l : List (I × Nat × List Nat)) (Q : Cc) (s : FS) : Prop := Ie E D c d l Q s (.tup []) []
def pkK (K : KK) (x : SV) : Prop := K x []
theorem D9 (a Q s) : brK E a Q s = sx E a Q s := (rfl)
theorem D8 (k x d l Q s) : gdK E k x d l Q s = body E k x d s (Rd E (some d) l Q s) := (rfl)
theorem D7 (d l Q s) : skK E d l Q s = Zn E l Q (s.apply d (.tup []) []) := (rfl)
theorem D6 (D c k x d l Q s) : gdA E D c k x d l Q s = body E k x d s (Ie E D c (some d) l Q s) := (rfl)
theorem D5 (D c d l Q s) : skA E D c d l Q s = Ie E D c d l Q s (.tup []) [] := (rfl)
theorem D2 (K x) : pkK K x = K x [] := (rfl)
theorem Ayp (p : Prop) [Decidable p] (a b Q s) : Ah9 E (.pv (.b (decide p))) a b Q s = ((p → brK E a Q s) ∧ (¬ p → brK E b Q s)) := by
 by_cases h : p <;> simp [Ah9, brK, h]
attribute [go_sem] Aoa Aob Api Arc Ako Agp Ago Aih Aii Aij Aik Aq4 Aq5 Aq3 Atm Atl Atn Awi Ah8 Ads Apj Ard Akp Agr Agq Ail Aim Ain Aio A16 A15 A14 Aso Amu Amz Ahs Acy Acz Amw Amx Amv Amy Awd Awg Akl Aq9 Awf Aq7 Aq8 Awh Ayo Ayq Au6 Au7 Atv Atw Att Aty Atx Aoo Aop Ait Aoq Aiv Aiu A6u A33 A6x Aze f_p A6v A6w A6z A35 A34 A61 Azf Auc Aza Azb Aw3 Arw Atd A37 A54 A38 A3s Ayd Asz Ah6 Ado Ah7 Adq Adp A6i A3i A6l k_p A6j A6k A6n A3k A3j A6p Ayl Atg Ayj Ayk Aue Aoy Ajl Aeg Ajf A7b Az8 A4x A5d A5e A0b A5c A7c A4o A5f A46 A69 A48 A0c A0a A4t A5g A4y A4s A4r A7d A43 A44 A42 A41 A45 A40 A5i A7a A4z Az9 A6d Ax4 Axl Axm A2g A2w A2x Ax7 A2v Ajm Apr A6e A17 A2y A2o Aoz Anh Ap0 A6b Av7 A2r A2c Amr Ax8 A2h A2b A2a A6f A6t A30 A31 A2l Ayv Ayw An5 A3e A3f A3g A6h A3a A3b A3c As8 Am2 Am3 Asr Am4 Ahu Aun Ape Arl Ak5 A51 A1l A52 A1m A05 Aw1 A06 Aw2 Av4 Aqx Aru Alh A67 A4i A4j A68 Azr Aut Axp A1h Agv A1i Akv A1j Arf Arg A55 A1e A1f Are Aoe Aui Ap6 Au5 A6r A3t A3u Ay2 At1 A62 e_s A63 A20 A0j A0i A2m A3r A2k A2j A2n Amo Amp Ax5 A6c A6g A2i Ask Amm Amn A4n A4m Az6 Azy Azz Az5 Az0 Az1 Az2 Az3 Az4 Azv Azu Azt Az7 A3y Ay9 A3z Av3 Aqw A0e Au3 A5z z_s A50 Ar0 Azh Ams Ayt Ayu Azc Aua Aov Aw0 Awz Awy Awx Arr Ars A24 A23 Awv Awu A3q A3p if_true if_false Option.map_some Option.bind_some Nat.le_refl and_self List.append_nil List.nil_append List.cons_append true_and and_true true_or or_true Bool.false_and Bool.true_and Bool.false_or Bool.or_false Bool.and_false Bool.and_true Bool.not_true Bool.not_false Int.toNat_zero List.drop_zero Int.toNat_natCast Ass Nat.zero_add Nat.add_zero decide_true decide_false Asu Asv Ast Aw7 Alq Aw8 Aw9 Acx A1s A1r Ap4 Ajp Ah0 Adi As0 Anz Aic An0 Aie Aid Aif An2 An1 Any Option.getD_some Option.getD_none true_implies false_implies Ayp Ake Akd Akf not_true_eq_false not_false_eq_true
attribute [go_sem_proc] Nat.reduceEqDiff Nat.reduceSub Nat.reduceLeDiff Nat.reduceAdd Int.reduceEq Int.reduceLT Int.reduceLE
attribute [go_sem_proc ↓] reduceIte
end Go.Proofs.Ythmjebkldgdeiaa.Fw
namespace Go.Proofs.Ythmjebkldgdeiaa.Fw
open Go.RowKit
def Cb (n : Nat) (f : Nat → PV) : List PV := (List.range n).map f
theorem C9 (n f) : (Cb n f).length = n := by simp [Cb]
theorem E4 {n k : Nat} (h : k < n) (f) : (Cb n f)[k]? = some (f k) := by simp [Cb, h]
theorem Ajo {n k : Nat} (h : k < n) (f d) : (Cb n f).getD k d = f k := by rw [List.getD_eq_getElem?_getD, E4 h]; rfl
theorem Lp {n : Nat} {f g : Nat → PV} (h : ∀ i, i < n → f i = g i) : Cb n f = Cb n g := by
 unfold Cb; exact List.map_congr_left fun i hi => h i (by simpa using hi)
theorem Abj {n a m : Nat} (h : a + m ≤ n) (f g) : splice (Cb n f) a (Cb m g) = Cb n fun i => if a ≤ i ∧ i < a + m then g (i - a) else f i := by
 apply List.ext_getElem?;intro k;unfold splice;rw [C9];simp only [List.getElem?_append, List.length_append, List.length_take, C9, List.getElem?_take, List.getElem?_drop];rw [Nat.min_eq_left (by omega)];by_cases h1 : k < a + m
 · rw [if_pos h1];by_cases h2 : k < a
   · rw [if_pos h2, if_pos h2, E4 (by omega), E4 (by omega), if_neg (by omega)]
   · rw [if_neg h2, E4 (by omega), E4 (by omega), if_pos (by omega)]
 · rw [if_neg h1];by_cases h3 : k < n
   · rw [E4 (by omega), E4 (by omega), if_neg (by omega)];congr 2; omega
   · rw [List.getElem?_eq_none (by rw [C9]; omega), List.getElem?_eq_none (by rw [C9]; omega)]
theorem Ap3 (f) : Cb 1 f = [f 0] := rfl
theorem Am9 {n k : Nat} (h : k < n) (f K) : LoadK (some (Cb n f)) k 1 false K = K (.pv (f k)) [] := by
 simp only [LoadK, C9, Gr, Ajo h];simp; omega
def Gy {α : Type} (a : Nat → α) (k : Nat) (x : α) : Nat → α := fun i => if i = k then x else a i
theorem U5 {n k : Nat} (h : k < n) (f c) : splice (Cb n f) k [c] = Cb n (Gy f k c) := by
 have := Abj (a := k) (m := 1) (n := n) (by omega) f fun _ => c;rw [Ap3] at this;rw [this];exact Lp fun i hi => by
  unfold Gy;by_cases e : i = k
  · subst e; simp
  · rw [if_neg (by omega), if_neg e]
abbrev Vc := Nat → Nat
def vE (a : Vc) : List PV := Cb 8 fun i => .i .u32 (a i : Int)
def tE (t : Nat → Vc) : List PV := Cb 64 fun i => .i .u32 (t (i / 8) (i % 8) : Int)
def wE (w : Nat → Bool) : List PV := Cb 8 fun i => .b (w i)
theorem Ab7 {a b : Vc} (h : ∀ i, i < 8 → a i = b i) : vE a = vE b := Lp fun i hi => by rw [h i hi]
theorem Bw (a) : (vE a).length = 8 := C9 ..
theorem Pl (a) : (wE a).length = 8 := C9 ..
theorem Asw {k : Nat} (h : k < 8) (a K) : LoadK (some (vE a)) k 1 false K = K (.pv (.i .u32 (a k))) [] := Am9 h _ _
theorem Agw {k : Nat} (h : k < 8) (a : Vc) (n : Nat) : splice (vE a) k [.i .u32 (n : Int)] = vE (Gy a k n) := by
 unfold vE; rw [U5 h];exact Lp fun i hi => by unfold Gy; split <;> rfl
theorem Vy {k : Nat} (h : k < 8) (a : Nat → Bool) (n : Bool) : splice (wE a) k [.b n] = wE (Gy a k n) := by
 unfold wE; rw [U5 h];exact Lp fun i hi => by unfold Gy; split <;> rfl
theorem Aqu : ([.i .u32 0, .i .u32 0, .i .u32 0, .i .u32 0, .i .u32 0, .i .u32 0, .i .u32 0, .i .u32 0] : List PV) = vE fun _ => 0 := rfl
theorem Aqt : ([.b false, .b false, .b false, .b false, .b false, .b false, .b false, .b false] : List PV) = wE fun _ => false := rfl
theorem Axb : List.replicate 8 (PV.i .u32 0) = vE fun _ => 0 := rfl
theorem Axa : List.replicate 8 (PV.b false) = wE fun _ => false := rfl
theorem Axc : List.replicate 64 (PV.i .u32 0) = tE fun _ _ => 0 := rfl
def iE (f : Nat → Int) : List PV := Cb 8 fun i => .i .i64 (f i)
theorem Md (a) : (iE a).length = 8 := C9 ..
theorem Vz {k : Nat} (h : k < 8) (a : Nat → Int) (n : Int) : splice (iE a) k [.i .i64 n] = iE (Gy a k n) := by
 unfold iE; rw [U5 h];exact Lp fun i hi => by unfold Gy; split <;> rfl
theorem Aqv : ([.i .i64 0, .i .i64 0, .i .i64 0, .i .i64 0, .i .i64 0, .i .i64 0, .i .i64 0, .i .i64 0] : List PV) = iE fun _ => 0 := rfl
theorem Axe : List.replicate 8 (PV.i .i64 0) = iE fun _ => 0 := rfl
theorem Asy (c cs K) : LoadK (some (c :: cs)) 0 1 false K = K (.pv c) [] := by
 simp [LoadK, Gr]
theorem Asx (c cs n m ag K) : LoadK (some (c :: cs)) (n + 1) m ag K = LoadK (some cs) n m ag K := by
 simp only [LoadK, List.length_cons];have e : Gr (c :: cs) (n + 1) m ag = Gr cs n m ag := by cases ag <;> simp [Gr]
 rw [e];congr 1;exact propext ⟨fun h => by omega, fun h => by omega⟩
theorem Ahz {a cs : List PV} {k m ag K} (h : a.length ≤ k) : LoadK (some (a ++ cs)) k m ag K = LoadK (some cs) (k - a.length) m ag K := by
 simp only [LoadK, List.length_append];have e1 : (k + m ≤ a.length + cs.length) = (k - a.length + m ≤ cs.length) := propext ⟨fun _ => by omega, fun _ => by omega⟩;rw [e1];have e : Gr (a ++ cs) k m ag = Gr cs (k - a.length) m ag := by
  cases ag with
  | true => simp only [Gr]; rw [List.drop_append, List.drop_eq_nil_of_le h]; rfl
  | false =>
    simp only [Gr];rw [List.getD_eq_getElem?_getD, List.getD_eq_getElem?_getD, List.getElem?_append_right h]
 rw [e]
theorem E0 (a K) : LoadK (some (vE a)) 0 8 true K = K (.vec 8 (vE a)) [] := by
 simp only [LoadK, Bw, Gr];rw [List.drop_zero, List.take_of_length_le (by rw [Bw]; omega)]; simp
theorem Am8 {k : Nat} (h : 8 ≤ k) (a cs m ag K) : LoadK (some (vE a ++ cs)) k m ag K = LoadK (some cs) (k - 8) m ag K := by
 rw [Ahz (by rw [Bw]; omega), Bw]
theorem T0 {cs : List PV} {m : Nat} (h : cs.length = m) (K) : LoadK (some cs) 0 m true K = K (.vec m cs) [] := by
 simp only [LoadK, Gr];rw [List.drop_zero, List.take_of_length_le (by omega)]; simp; omega
theorem Apm (a b : Nat) : max (a : Int) (b : Int) = ((max a b : Nat) : Int) := by omega
theorem Ax3 {p q : Prop} (h : p) : (p ∧ q) = q := propext ⟨fun x => x.2, fun x => ⟨h, x⟩⟩
theorem A4c {a b : Int} (h : a < b) : decide (a < b) = true := decide_eq_true h
theorem A4d {a b : Int} (h : ¬ a < b) : decide (a < b) = false := decide_eq_false h
theorem A4e {a b : Int} (h : a ≤ b) : decide (a ≤ b) = true := decide_eq_true h
theorem A4f {a b : Int} (h : ¬ a ≤ b) : decide (a ≤ b) = false := decide_eq_false h
theorem A4g {a b : Int} (h : a = b) : decide (a = b) = true := decide_eq_true h
theorem A4h {a b : Int} (h : ¬ a = b) : decide (a = b) = false := decide_eq_false h
theorem Aef {a b : List UInt8} (h : A3 a = A3 b) : a = b := by
 induction a generalizing b with
 | nil => cases b with
   | nil => rfl
   | cons y b => simp [A3] at h
 | cons x a ih => cases b with
   | nil => simp [A3] at h
   | cons y b =>
     simp only [A3, List.map_cons, List.cons.injEq, PV.i.injEq, true_and, and_true] at h;rw [ih h.2]; congr 1;exact UInt8.toNat_inj.1 (by have := h.1; omega)
theorem App (l K) : Ve (A3 l) K = K (.pv (.s l)) [] := by
 unfold Ve;exact propext ⟨fun ⟨m, e, h⟩ => by rw [Aef e]; exact h, fun h => ⟨l, rfl, h⟩⟩
theorem Ato {n : Nat} {a b : List PV} (h : a = b) : Imp (.vec n a) (.vec n b) := h ▸ Imp.refl _
theorem Atq {k : IntKind} {a b : Int} (h : a = b) : Imp (.pv (.i k a)) (.pv (.i k b)) = True := eq_true (h ▸ Imp.refl _)
def Tl (n m : Nat) : List (Nat × SV) → List (Nat × SV)
 | [] => []
 | (j, x) :: l => (j, x.ren n m) :: Tl n m l
def Ml (n m : Nat) : List (Nat × Option Blk) → List (Nat × Option Blk)
 | [] => []
 | (j, some x) :: l => (if j = m then (j, none) else (j, some (x.ren n m))) :: Ml n m l
 | (j, none) :: l => (j, none) :: Ml n m l
theorem Afv (n m k) : ∀ t : List (Nat × SV), lk .dead k (Tl n m t) = (lk .dead k t).ren n m
 | [] => by simp [Tl, lk, SV.ren]
 | (j, x) :: l => by
   simp only [Tl, lk, Afv n m k l];split <;> rfl
theorem R0 (n m k) (hk : k ≠ m) : ∀ t : List (Nat × Option Blk), lk none k (Ml n m t) = (lk none k t).map (Blk.ren n m)
 | [] => by simp [Ml, lk]
 | (j, some x) :: l => by
   by_cases hj : j = m
   · subst hj; simp [Ml, lk, hk, R0 n j k hk l]
   · simp only [Ml, hj, if_false, lk, R0 n m k hk l];split <;> rfl
 | (j, none) :: l => by
   simp only [Ml, lk, R0 n m k hk l];split <;> simp
theorem Axf (t h n m) (hne : n ≠ m) : (mk t h).ren n m = mk (Tl n m t) ((n, none) :: (m, (lk none n h).map (Blk.ren n m)) :: Ml n m h) := by
 have e1 : (fun k => ((mk t h).t k).ren n m) = (mk (Tl n m t) ((n, none) :: (m, (lk none n h).map (Blk.ren n m)) :: Ml n m h)).t := by
  funext k; simp only [mk, Afv]
 have e2 : ((mk t h).ren n m).h = (mk (Tl n m t) ((n, none) :: (m, (lk none n h).map (Blk.ren n m)) :: Ml n m h)).h := by
  funext k;simp only [FS.ren, mk, lk];by_cases h1 : k = m
  · subst h1; rw [if_pos rfl, if_neg (Ne.symm hne), if_pos rfl]
  · rw [if_neg h1];by_cases h2 : k = n
    · subst h2; simp
    · rw [if_neg h2, if_neg h2, if_neg h1, R0 n m k h1]
 show FS.mk _ _ = FS.mk _ _;congr 1
theorem Ks {t : List (Nat × SV)} {h : List (Nat × Option Blk)} {s' : FS} (n m : Nat) (hne : n ≠ m) (hm : lk none m h = none) (hw : Wk (mk (Tl n m t) ((n, none) :: (m, (lk none n h).map (Blk.ren n m)) :: Ml n m h)) s') : Wk (mk t h) s' :=
 .ren n m hne hm (by rw [Axf _ _ _ _ hne]; exact hw)
theorem Au {α : Type} {I : α → FS} {J : α → Prop} {m : α → Nat} {x : α} {s : FS} (y : α) (T : List (Nat × SV)) (H : List (Nat × Option Blk)) (hI : I y = mk T H) (hJ : J y) (hm : m y < m x) (h1 : Aa2 s T) (h2 : Rr s H) : ∃ y, J y ∧ m y < m x ∧ Wk s (I y) :=
 ⟨y, hJ, hm, hI ▸ A2 h1 h2⟩
theorem Ab6 {k : Nat} (f g : Vc) (n : Nat) (hn : n = f k) : vE (Gy (fun i => if i < k then f i else g i) k n) = vE fun i => if i < k + 1 then f i else g i := by
 subst hn;exact Ab7 fun i hi => by unfold Gy; grind
theorem Av6 (f g : Vc) {k : Nat} (h : 8 ≤ k) : (vE fun i => if i < k then f i else g i) = vE f := Ab7 fun i hi => by rw [if_pos (by omega)]
theorem Aqy (f g : Vc) {k : Nat} (h : k = 0) : (vE fun i => if i < k then f i else g i) = vE g := Ab7 fun i hi => by rw [if_neg (by omega)]
theorem A58 (n m x) : SV.ren n m (.pv x) = .pv x := (rfl)
theorem A1n (n m k x) : SV.ren n m (.vec k x) = .vec k x := (rfl)
theorem A59 (n m a b c d) : SV.ren n m (.pi a b c d) = .pi a b c d := (rfl)
theorem r_p (n m k o) : SV.ren n m (.p k o) = if k = n then .p m o else if k = m then .dead else .p k o := (rfl)
theorem A6a (n m k) : SV.ren n m (.os k) = if k = n then .os m else if k = m then .dead else .os k := (rfl)
theorem A1p (n m l) : SV.ren n m (.agg l) = .agg (SV.renL n m l) := (rfl)
theorem A1o (n m l) : SV.ren n m (.tup l) = .tup (SV.renL n m l) := (rfl)
theorem Axi (n m) : SV.renL n m [] = [] := (rfl)
theorem Ar6 (n m x l) : SV.renL n m (x :: l) = SV.ren n m x :: SV.renL n m l := (rfl)
theorem Axg (n m x) : Blk.ren n m (.var x) = .var (x.ren n m) := (rfl)
theorem Axh (n m a b) : Blk.ren n m (.row a b) = .row a b := (rfl)
theorem Alr (n m) : Tl n m [] = [] := (rfl)
theorem Aha (n m j x l) : Tl n m ((j, x) :: l) = (j, x.ren n m) :: Tl n m l := (rfl)
theorem Als (n m) : Ml n m [] = [] := (rfl)
theorem Ahc (n m j x l) : Ml n m ((j, some x) :: l) = (if j = m then (j, none) else (j, some (x.ren n m))) :: Ml n m l := (rfl)
theorem Ahb (n m j l) : Ml n m ((j, none) :: l) = (j, none) :: Ml n m l := (rfl)
theorem Azd (p : List PV → Prop) : (∀ c, c ∈ ([] : List (List PV)) → p c) = True := by simp
theorem Aub (x l) (p : List PV → Prop) : (∀ c, c ∈ x :: l → p c) = (p x ∧ ∀ c, c ∈ l → p c) := by simp
theorem A36 (d : Nat) (p : Nat → Prop) : (∃ n, SV.os d = SV.os n ∧ p n) = p d := propext ⟨fun ⟨n, e, h⟩ => by cases e; exact h, fun h => ⟨d, rfl, h⟩⟩
theorem Y1 (l : List UInt8) (n : Nat) : (A3 l).take n = A3 (l.take n) := by simp [A3]
theorem Y2 (l : List UInt8) (n : Nat) : (A3 l).drop n = A3 (l.drop n) := by simp [A3]
theorem Ri (a b : List UInt8) : A3 a ++ A3 b = A3 (a ++ b) := by simp [A3]
attribute [go_sem] Y2 Y1 Ri List.take_length Azd Aub A36 List.length_cons List.length_nil Md Vz Aqv Axe A58 A1n A59 r_p A6a A1p A1o Axi Ar6 Axg Axh Alr Aha Als Ahc Ahb Asy Asx E0 Am8 Atq Int.natCast_zero Asw Agw Vy Aqu Aqt Axb Axa Axc Bw Pl Apm Ax3 A4c A4d A4e A4f A4g A4h App Vt Nat.mul_one Bool.false_xor Bool.true_xor
section slices
variable (E : Env)
theorem A6m (n m z a b) : SV.kill n (.ov m z a b) = if n = m then .dead else .ov m z a b := (rfl)
theorem A6y (n v m z a b) : SV.frz n v (.ov m z a b) = .ov m z a b := (rfl)
theorem Atf (n a b c) : Blk.kill n (.rowc a b c) = .rowc a b c := (rfl)
theorem A47 (n x d s K) : body E (.eqn n) x d s K = Af d s.h (.eqn n) (Bh s x) K := (rfl)
theorem A5b (x d s K) : body E .cap x d s K = Af d s.h .cap (Bh s x) K := (rfl)
theorem A49 (n x d s K) : body E (.cpy n) x d s K = Af d s.h (.cpy n) (Bh s x) K := (rfl)
theorem A5h (a b z x d s K) : body E (.apz a b z) x d s K = Af d s.h (.apz a b z) (Bh s x) K := (rfl)
theorem A4q (n a b x d s K) : body E (.slv n a b) x d s K = Af d s.h (.slv n a b) (Bh s x) K := (rfl)
theorem A4p (n x d s K) : body E (.slx n) x d s K = Af d s.h (.slx n) (Bh s x) K := (rfl)
theorem Amq (d h n f z es K) : Af d h (.eqn n) [.pv (.sl f z es)] K = Un n (some es) K := (rfl)
theorem Ao2 (n es K) : Un n (some es) K = ∀ b : Bool, (es ≠ [] → b = false) → K (.pv (.b (n ^^ b))) [] := (rfl)
theorem A2u (d h n K) : Af d h .cap [.os n] K = Uy (h n) n K := (rfl)
theorem Apn (sz es n K) : Uy (some (.row sz es)) n K = ∀ c : Nat, es.length ≤ c → K (.pv (.i .i64 c)) [.upd n (.rowc sz es c)] := (rfl)
theorem Ao9 (sz es) : Dn (some (.row sz es)) = some es := (rfl)
theorem Apa (sz es c) : Dn (some (.rowc sz es c)) = some es := (rfl)
theorem Aln (sz es) : C4 (some (.row sz es)) = sz := (rfl)
theorem Alo (sz es c) : C4 (some (.rowc sz es c)) = sz := (rfl)
theorem Ai4 (h n z a b) : E8 h (.ov n z a b) = (Dn (h n)).map fun es => (es.take b).drop a := (rfl)
theorem Ai3 (h x) : E8 h (.pv x) = Cm h (.pv x) := (rfl)
theorem Ai5 (h n) : E8 h (.os n) = Cm h (.os n) := (rfl)
theorem Ao7 (h n z a b) : G9 h (.ov n z a b) = if C4 (h n) = z then z else 0 := (rfl)
theorem Ao6 (h x) : G9 h (.pv x) = He h (.pv x) := (rfl)
theorem Ao8 (h n) : G9 h (.os n) = He h (.os n) := (rfl)
theorem A5a (n z x d s K) : body E (.clr n z) x d s K = Af d s.h (.clr n z) (Bh s x) K := (rfl)
theorem A2t (d h sz z x K) : Af d h (.clr sz z) [x] K = Qj h sz z x K := (rfl)
theorem Ajc (h sz n z zz a b K) : Qj h sz zz (.ov n z a b) K = (z = sz ∧ Y0 (h n) n sz zz a b K) := (rfl)
theorem Apk (sz' es n sz zz lo hi K) : Y0 (some (.row sz' es)) n sz zz lo hi K = (sz = sz' ∧ K (.tup []) [.upd n (.row sz (es.take lo ++ List.replicate (hi - lo) zz ++ es.drop hi))]) := (rfl)
theorem A2s (d h sz x y K) : Af d h (.cpy sz) [x, y] K = Lh h sz x y K := (rfl)
theorem Aja (h sz n z a b y K) : Lh h sz (.ov n z a b) y K = (z = sz ∧ J9 (h n) n sz a (some b) (E8 h y) (G9 h y) K) := (rfl)
theorem Apg (sz' es n sz lo hi ys z K) : J9 (some (.row sz' es)) n sz lo (some hi) (some ys) z K = (sz = sz' ∧ (ys = [] ∨ z = sz) ∧
 K (.pv (.i .i64 ((min ys.length (hi - lo) : Nat) : Int))) [.upd n (.row sz (es.take lo ++ ys.take (hi - lo) ++ es.drop (lo + min ys.length (hi - lo))))]) := (rfl)
theorem A2z (d h a b z x k m K) : Af d h (.apz a b z) [x, .pv (.i k m)] K = Lq h d a b z m x K := (rfl)
theorem Ajq (h d a b z m n y lo hi K) : Lq h d a b z m (.ov n y lo hi) K = (lo = 0 ∧ Qn (h n) d a b z hi m K) := (rfl)
theorem Ap5 (sz' es c d sz bytes z hi m K) : Qn (some (.rowc sz' es c)) d sz bytes z hi m K = (sz = sz' ∧ 0 < m ∧ (c : Int) < hi + m ∧ (hi + m) * bytes ≤ 70368744177664 ∧ K (.os d) [.new d (.row sz (es.take hi ++ List.replicate m.toNat z))]) := (rfl)
theorem A19 (d h sz a b x l K) : Af d h (.slv sz a b) (x :: l) K = M4 h sz a b x l K := (rfl)
theorem Ag2 (h sz a b n l K) : M4 h sz a b (.os n) l K = Ag4 n sz b (Dn (h n)) (C4 (h n)) (Fk a 0 l) K := (rfl)
theorem A2p (d h g n o K) : Af d h (.eqv g []) [.p n o] K = K (.pv (.b g)) [] := (rfl)
theorem Ax6 (d h g a b c e K) : Af d h (.eqv g []) [.pi a b c e] K = K (.pv (.b g)) [] := (rfl)
theorem A2q (d h g k ks f l K) : Af d h (.eqv g (k :: ks)) [.fn f l] K = K (.pv (.b g)) [] := (rfl)
attribute [go_sem] A2p Ax6 A2q
theorem Aws (n sz hi es z i l K) : Ag4 n sz hi (some es) z (some (i, l)) K = (sz = z ∧ Ag3 n sz es.length i (Fk hi es.length l) K) := (rfl)
theorem Awr (n sz len i j l K) : Ag3 n sz len i (some (j, l)) K = (0 ≤ i ∧ i ≤ j ∧ j ≤ len ∧ K (.ov n sz i.toNat j.toNat) []) := (rfl)
theorem A18 (d h sz x k j K) : Af d h (.slx sz) [x, .pv (.i k j)] K = Tc h d sz x j [.pv (.i k j)] K := (rfl)
theorem Ag1 (h d sz n j l K) : Tc h d sz (.os n) j l K = Td (h n) n d sz j (Nz (.os n) h sz false true false l (Cm h (.os n)) K) K := (rfl)
theorem Ak9 (sz' es c n d sz j T K) : Td (some (.rowc sz' es c)) n d sz j T K = (sz = sz' ∧ es.length ≤ j ∧ j ≤ c ∧ ∀ g : List (List PV), g.length = j.toNat - es.length → (∀ x ∈ g, x.length = sz) → K (.os d) [.del n, .new d (.row sz (es ++ g))]) := (rfl)
attribute [go_sem] A5a A2t Ajc Apk A6m A6y Atf A47 A5b A49 A5h A4q A4p Amq Ao2 A2u Apn Ao9 Apa Aln Alo Ai4 Ai3 Ai5 Ao7 Ao6 Ao8 A2s Aja Apg A2z Ajq Ap5 A19 Ag2 Aws Awr A18 Ag1 Ak9 Nat.sub_zero
end slices
section own
variable {P : Program} {F : Fr} {N : Nat} {ρ : Nat → Value} {s : FS} {a : Act} {w w' : World} {K : KK} {V : View}
theorem Ue {u : List HU} : ∀ (ts : List Nat) (s : FS), s.hup (ts.map HU.del ++ u) = (A1 s ts).hup u
 | [], s => by simp [A1]
 | n :: ts, s => by
   simp only [List.map_cons, List.cons_append, FS.hup];rw [Ue ts];congr 1;refine FS.ext' (fun _ => rfl) (fun m => ?_);simp only [A1, FS.seth, List.mem_cons];by_cases h1 : m ∈ ts
   · simp [h1]
   · by_cases h2 : m = n <;> simp [h1, h2]
def Mn (ρ : Nat → Value) (h : Nat → Option Blk) (ts : List Nat) (b : Nat) : Prop := ∃ n ∈ ts, ∃ blk, h n = some blk ∧ Bm (ρ n) = some b
theorem RelR.swapin (hR : RelR F N ρ s a w) (ts : List Nat) (d : Nat) (blk : Blk) (p : Value)
 (hos : w'.os = w.os) (htape : w'.tape = w.tape) (hout : w'.output = w.output) (hsize : w.heap.size ≤ w'.heap.size) (hblock : ∀ b, b < w.heap.size → ¬ Mn ρ s.h ts b → w'.heap[b]? = w.heap[b]?)
 (hid : ∀ b, Bm p = some b → (w.heap.size ≤ b ∧ b < w'.heap.size) ∨ Mn ρ s.h ts b)
 (hown : Own w' (vw F w' (Fw.upd ρ d p) (((A1 s ts).kill d).seth d (some blk))) (Fw.upd ρ d p) d blk) :
 RelR F N (Fw.upd ρ d p) (((A1 s ts).kill d).seth d (some blk)) a w' ∧ (vw F w ρ s).le (vw F w' (Fw.upd ρ d p) (((A1 s ts).kill d).seth d (some blk))) := by
 have hs : ∀ m x, (((A1 s ts).kill d).seth d (some blk)).h m = some x → (m = d ∧ x = blk) ∨ (m ≠ d ∧ m ∉ ts ∧ ∃ y, s.h m = some y ∧ x = y.kill d) := by
  intro m x hm;simp only [A1, FS.seth, FS.kill] at hm;by_cases e : m = d
  · simp only [e, if_true] at hm; cases hm; exact .inl ⟨e, rfl⟩
  · simp only [e, if_false] at hm;by_cases e2 : m ∈ ts
    · simp [e2] at hm
    · simp only [e2, if_false] at hm;cases hy : s.h m with
      | none => rw [hy] at hm; cases hm
      | some y => rw [hy] at hm; cases hm; exact .inr ⟨e, e2, y, rfl, rfl⟩
 have mo : ∀ b, Mn ρ s.h ts b → Bo ρ s.h b := fun b ⟨n, _, y, h1, h2⟩ => ⟨n, y, h1, h2⟩
 have key : ∀ b, Bo (Fw.upd ρ d p) (((A1 s ts).kill d).seth d (some blk)).h b → Bo ρ s.h b ∨ (w.heap.size ≤ b ∧ b < w'.heap.size) := by
  rintro b ⟨m, x, hm, hb⟩;rcases hs m x hm with ⟨rfl, rfl⟩ | ⟨e1, e2, y, hy, rfl⟩
  · rw [Al] at hb;rcases hid b hb with h | h
    · exact .inr h
    · exact .inl (mo b h)
  · rw [A6 e1] at hb; exact .inl ⟨m, y, hy, hb⟩
 have hV : (vw F w ρ s).le (vw F w' (Fw.upd ρ d p) (((A1 s ts).kill d).seth d (some blk))) := A4 fun b c ho hc => by
  have hlt := Hs hc;refine ⟨fun hb => ?_, ?_⟩
  · rcases hb with hb | hb
    · rcases key b hb with h | h
      · exact ho (.inl h)
      · omega
    · exact ho (.inr hb)
  · rw [Cj (hblock b hlt fun h => ho (.inl (mo b h)))]; exact hc
 refine ⟨⟨⟨hos.trans hR.fr.os, htape.trans hR.fr.tape, hout.trans hR.fr.output, Nat.le_trans hR.fr.size hsize, fun b hb hm => ?_, hR.fr.hid⟩, fun b hb => ?_, fun m x hm => ?_, fun m k x y b hm hk hbm hbk => ?_, fun m => ?_, hR.size, hR.defers⟩, hV⟩
 · rw [hblock b (Nat.lt_of_lt_of_le hb hR.fr.size) fun h => by
    rcases hR.may b (mo b h) with h1 | h1
    · omega
    · exact hm h1]
   exact hR.fr.block b hb hm
 · rcases key b hb with h | h
   · exact hR.may b h
   · exact .inl (Nat.le_trans hR.fr.size h.1)
 · rcases hs m x hm with ⟨rfl, rfl⟩ | ⟨e1, e2, y, hy, rfl⟩
   · exact hown
   · have ho := hR.own m y hy;exact (ho.congr (V' := vw F w ρ s) (w' := w') (fun _ _ x => x) (fun b hb => hblock b (ho.lt hb) fun ⟨n, hn, z, hz, hb'⟩ => e2 (by rw [hR.inj m n y z b hy hz hb hb']; exact hn))).kill hV e1
 · rcases hs m x hm with ⟨rfl, rfl⟩ | ⟨e1, e2, z, hz, rfl⟩
   · rcases hs k y hk with ⟨rfl, rfl⟩ | ⟨f1, f2, u, hu, rfl⟩
     · rfl
     · exfalso; rw [Al] at hbm; rw [A6 f1] at hbk;rcases hid b hbm with h | ⟨n, hn, q, hq, hb'⟩
       · have := (hR.own k u hu).lt hbk; omega
       · exact f2 (by rw [hR.inj k n u q b hu hq hbk hb']; exact hn)
   · rcases hs k y hk with ⟨rfl, rfl⟩ | ⟨f1, f2, u, hu, rfl⟩
     · exfalso; rw [Al] at hbk; rw [A6 e1] at hbm;rcases hid b hbk with h | ⟨n, hn, q, hq, hb'⟩
       · have := (hR.own m z hz).lt hbm; omega
       · exact e2 (by rw [hR.inj m n z q b hz hq hbm hb']; exact hn)
     · rw [A6 e1] at hbm; rw [A6 f1] at hbk;exact hR.inj m k z u b hz hu hbm hbk
 · show Conc _ _ ((s.t m).kill d) _;exact (hR.tmps m).kill hV
theorem Ajg (hm : P.follows .mixedOrders = true) {f N' : Nat} {rs : List Rv} {c : C} (hf : A7 P f = some (N', rs, c)) {F' : Fr} {s0 : FS} {vs : List Value} (h0 : F'.defs = []) (hok : F'.ok F'.w0) (hm0 : ∀ b, F'.M0 b → b < F'.w0.heap.size)
 (hR : RelR F' N' ρ s0 { tmps := (⟨vs⟩ : Array Value) ++ Array.replicate (N' - (⟨vs⟩ : Array Value).size) undef, defers := [] } w) {R : SV → (Nat → Option Blk) → Prop} (hrun : sx (Rt P F' N') c (Qq rs R) s0) :
 Calls P f ⟨vs⟩ w fun e w' => ∃ v ρ' s' a' y, e = .returned v ∧ RelR F' N' ρ' s' a' w' ∧ Conc (vw F' w' ρ' s') ρ' y v ∧ R y s'.h :=
 Aee hm hf h0 hok hm0 hR (R := fun y s => R y s.h) hrun
def Ei (h : Nat → Option Blk) : List Nat → List (Nat × Option Blk)
 | [] => []
 | n :: l => (n, h n) :: Ei h l
theorem T4 (h : Nat → Option Blk) (n : Nat) : ∀ ts : List Nat, lk none n (Ei h ts) = if n ∈ ts then h n else none
 | [] => by simp [Ei, lk]
 | m :: ts => by
   simp only [Ei, lk, T4 h n ts, List.mem_cons];by_cases e : n = m
   · subst e; simp
   · simp [e]
theorem Yp (hm : P.follows .mixedOrders = true) {f N' : Nat} {rs : List Rv} {c : C} (hf : A7 P f = some (N', rs, c)) {args : List SV} {h : Nat → Option Blk} {d : Nat} {sz : Nat} {es : List (List PV)} (hlen : args.length ≤ N')
 (hts : A9 args = Aw args)
 (hrun : ∀ F, sx (Rt P F N') c (Qq rs fun y g => ∃ n, y = .os n ∧ g n = some (.row sz es)) (mk (Ca 0 args) (Ei h (A9 args)))) :
 FunOk P f args h d (.os d) ((A9 args).map .del ++ [.new d (.row sz es)]) := by
 refine ⟨Bs hf, fun F N ρ s a w hR hh vs hc => ?_⟩;rw [hts];rw [hts] at hrun;generalize htt : Aw args = ts at *
 let F' : Fr := ⟨w, Mn ρ s.h ts, F.out ρ (A1 s ts).h, fun _ => undef, []⟩
 have hvl : vs.length = args.length := by
  clear hrun hlen hts hh htt
  induction args generalizing vs with
  | nil => simp only [ConcL] at hc; subst hc; rfl
  | cons x l ih =>
    simp only [ConcL] at hc;obtain ⟨v, us, rfl, _, h⟩ := hc;simp [ih _ h]
 have hlk : ∀ n, (mk (Ca 0 args) (Ei h ts)).h n = if n ∈ ts then s.h n else none := fun n => by
  simp only [mk, T4];split
  · rename_i hn; rw [hh n hn]
  · rfl
 have how : ∀ b, Bo ρ (mk (Ca 0 args) (Ei h ts)).h b ↔ Mn ρ s.h ts b := fun b => by
  constructor
  · rintro ⟨n, x, h1, h2⟩;rw [hlk] at h1; split at h1
    · rename_i hn; exact ⟨n, hn, x, h1, h2⟩
    · cases h1
  · rintro ⟨n, hn, x, h1, h2⟩;exact ⟨n, x, by rw [hlk, if_pos hn]; exact h1, h2⟩
 have hoth : ∀ b, Bo ρ (A1 s ts).h b ↔ ∃ n, n ∉ ts ∧ ∃ x, s.h n = some x ∧ Bm (ρ n) = some b := fun b => by
  constructor
  · rintro ⟨n, x, h1, h2⟩;simp only [A1] at h1; split at h1
    · cases h1
    · rename_i hn; exact ⟨n, hn, x, h1, h2⟩
  · rintro ⟨n, hn, x, h1, h2⟩;exact ⟨n, x, by simp only [A1, if_neg hn]; exact h1, h2⟩
 have hview : Ai w (F'.out ρ (mk (Ca 0 args) (Ei h ts)).h) = vw F w ρ s := by
  show Ai w _ = Ai w _;congr 1;funext b;refine propext ⟨fun hb => ?_, fun hb => ?_⟩
  · rcases hb with hb | hb
    · obtain ⟨n, _, x, h1, h2⟩ := (how b).1 hb; exact .inl ⟨n, x, h1, h2⟩
    · rcases hb with hb | hb
      · obtain ⟨n, _, x, h1, h2⟩ := (hoth b).1 hb; exact .inl ⟨n, x, h1, h2⟩
      · exact .inr hb
  · rcases hb with ⟨n, x, h1, h2⟩ | hb
    · by_cases hn : n ∈ ts
      · exact .inl ((how b).2 ⟨n, hn, x, h1, h2⟩)
      · exact .inr (.inl ((hoth b).2 ⟨n, hn, x, h1, h2⟩))
    · exact .inr (.inr hb)
 have hR0 : RelR F' N' ρ (mk (Ca 0 args) (Ei h ts)) { tmps := (⟨vs⟩ : Array Value) ++ Array.replicate (N' - (⟨vs⟩ : Array Value).size) undef, defers := [] } w := by
  refine ⟨⟨rfl, rfl, rfl, Nat.le_refl _, fun _ _ _ => rfl, fun b hb => ⟨?_, fun hmi => ?_⟩⟩, fun b hb => .inr ((how b).1 hb), fun n x hx => ?_, fun n m x y b hx hy hbx hby => ?_, fun n => ?_, by simp; omega, rfl⟩
  · rcases hb with hb | hb
    · obtain ⟨n, _, x, h1, h2⟩ := (hoth b).1 hb; exact (hR.own n x h1).lt h2
    · exact Nat.lt_of_lt_of_le (hR.fr.hid b hb).1 hR.fr.size
  · obtain ⟨n, hn, x, h1, h2⟩ := hmi;rcases hb with hb | hb
    · obtain ⟨m, hm, y, g1, g2⟩ := (hoth b).1 hb;exact hm (by rw [hR.inj m n y x b g1 h1 g2 h2]; exact hn)
    · exact hR.shown ⟨n, x, h1, h2⟩ hb
  · rw [hview];rw [hlk] at hx; split at hx
    · exact hR.own n x hx
    · cases hx
  · rw [hlk] at hx hy;split at hx
    · split at hy
      · exact hR.inj n m x y b hx hy hbx hby
      · cases hy
    · cases hx
  · rw [hview];have := Fc 0 n hc;simp only [Nat.zero_le, if_true, Nat.sub_zero] at this;simp only [mk];have he : ((⟨vs⟩ : Array Value) ++ Array.replicate (N' - (⟨vs⟩ : Array Value).size) undef).getD n undef = (vs[n]?).getD undef := by
     rw [Array.getD_eq_getD_getElem?];by_cases hn : n < vs.length
     · rw [Array.getElem?_append_left (by simpa using hn)]; simp
     · rw [Array.getElem?_append_right (by simpa using hn)];rw [List.getElem?_eq_none (by omega)];simp only [Array.getElem?_replicate, Option.getD_none];split <;> rfl
    have hN := Me hf;unfold Fr.val;by_cases hb : n < Gj
    · rw [if_pos hb, he]; exact this
    · rw [if_neg hb];rw [List.getElem?_eq_none (by omega)] at this; exact this
 refine Calls.mono (Ajg hm hf rfl hR0.fr (fun b ⟨n, hn, x, h1, h2⟩ => (hR.own n x h1).lt h2) hR0 (hrun F')) fun e w' he => ?_;obtain ⟨v, ρ', s', a', y, rfl, hR', hy, n, rfl, hn⟩ := he;simp only [Conc] at hy;have ho : ∀ b, Bm (ρ' n) = some b → Bo ρ' s'.h b := fun b hb => ⟨n, _, hn, hb⟩
 have hid : ∀ b, Bm (ρ' n) = some b → (w.heap.size ≤ b ∧ b < w'.heap.size) ∨ Mn ρ s.h ts b := fun b hb => by
  rcases hR'.may b (ho b hb) with h1 | h1
  · exact .inl ⟨h1, hR'.lt (ho b hb)⟩
  · exact .inr h1
 have hres := hR.swapin (w' := w') ts d (.row sz es) (ρ' n) hR'.fr.os hR'.fr.tape hR'.fr.output hR'.fr.size hR'.fr.block hid (by
  obtain ⟨base, cap, g1, g2, g3, g4, g5⟩ := hR'.own n _ hn;refine ⟨base, cap, by rw [Al]; exact g1, g2, g3, g4, fun hcap => ?_⟩;obtain ⟨b, vs', ty, fr, k1, k2, k3, k4, k5, k6⟩ := g5 hcap;refine ⟨b, vs', ty, fr, k1, k2, k3, k4, k5, fun i c hi => (k6 i c hi).mono (A4 fun b' c' hno hc' => ⟨fun hb' => hno ?_, hc'⟩)⟩;rcases hb' with ⟨m, z, hm1, hm2⟩ | hb'
  · simp only [A1, FS.seth, FS.kill] at hm1;by_cases hmd : m = d
    · subst hmd;rw [Al] at hm2;exact .inl ⟨n, _, hn, hm2⟩
    · rw [A6 hmd] at hm2;simp only [hmd, if_false] at hm1;by_cases hmt : m ∈ ts
      · simp [hmt] at hm1
      · simp only [hmt, if_false] at hm1;obtain ⟨z', hz', _⟩ := Option.map_eq_some_iff.1 hm1;exact .inr (.inl ((hoth b').2 ⟨m, hmt, z', hz', hm2⟩))
  · exact .inr (.inr hb'))
 have e1 : s.hup (List.map HU.del ts ++ [HU.new d (Blk.row sz es)]) = ((A1 s ts).kill d).seth d (some (.row sz es)) := by rw [Ue]; rfl
 refine ⟨v, Fw.upd ρ d (ρ' n), rfl, by rw [e1]; exact hres.1, ?_⟩;simp only [Conc];exact ⟨by rw [Al]; exact hy.1, hy.2⟩
theorem O1 (hm : P.follows .mixedOrders = true) {f N' : Nat} {rs : List Rv} {c : C} (hf : A7 P f = some (N', rs, c)) {args : List SV} {h : Nat → Option Blk} {d : Nat} {sz : Nat} {es : List (List PV)} (hlen : args.length ≤ N')
 (hargs : Ba args = true) (hx : SV.closedL args = true ∨ ∀ c ∈ es, c.all PV.flat = true) (hrun : ∀ F, sx (Rt P F N') c (Qq rs fun y g => (∃ n, y = .os n ∧ g n = some (.row sz es)) ∨ ∃ z, y = .pv (.sl true z []) ∧ es = [] ∧ 0 < sz) (mk (Ca 0 (Cl h args)) [])) :
 FunOk P f args h d (.os d) [.new d (.row sz es)] := by
 refine ⟨Bs hf, fun F N ρ s a w hR hh vs hc => ?_⟩;refine Calls.mono (Cs hm hf (h := h) hlen hargs Jq hrun hR hh hc) fun e w' he => ?_;obtain ⟨v, rfl, hg, N'', ρ', s', a', y, hR', hy, hyy⟩ := he;rcases hyy with ⟨n, rfl, hn⟩ | ⟨z, rfl, rfl, hsz⟩
 case inr =>
  simp only [Conc] at hy;have hv : ∃ base, v = .slice base 0 0 := by
   cases hy with
   | sl full sz es b cap cs bl off arr hcap hfull hsz ha hcs hel =>
     have := hfull rfl;simp at this;subst this;exact ⟨b, rfl⟩
  obtain ⟨base, rfl⟩ := hv;obtain ⟨h1, _⟩ := (hR.grew hg).new (Grew.refl w') d (.row sz []) (.slice base 0 0) (fun b hb => by cases base <;> simp [Bm] at hb) (fun V' _ => ⟨base, 0, by rw [Al]; rfl, Nat.le_refl _, hsz, by simp, fun h => absurd rfl h⟩);exact ⟨_, _, rfl, h1, Fm⟩
 simp only [Conc] at hy;obtain ⟨base, cap, g1, g2, g3, g4, g5⟩ := hR'.own n _ hn;have hown : ∀ b, Bm (ρ' n) = some b → w.heap.size ≤ b ∧ b < w'.heap.size := fun b hb => by
  have ho : Bo ρ' s'.h b := ⟨n, _, hn, hb⟩
  exact ⟨(hR'.may b ho).resolve_right id, hR'.lt ho⟩
 have hnew := hR.adopt hg d (.row sz es) (ρ' n) hown fun hV => by
  refine ⟨base, cap, by rw [Al]; exact g1, g2, g3, g4, fun hcap => ?_⟩;obtain ⟨b, vs', ty, fr, k1, k2, k3, k4, k5, k6⟩ := g5 hcap;refine ⟨b, vs', ty, fr, k1, k2, k3, k4, k5, fun i c hi => ?_⟩;rcases hx with hx | hx
  · obtain ⟨e1, _, _⟩ := Bl hx;rw [e1, Ck] at hR' k6;refine (k6 i c hi).mono (A4 fun b' c' ho hc' => ⟨fun hb' => ?_, hc'⟩);rcases hb' with ⟨m, z, hm1, hm2⟩ | hb'
    · by_cases hmd : m = d
      · subst hmd;rw [Al] at hm2;exact ho (.inl ⟨n, _, hn, hm2⟩)
      · rw [A6 hmd] at hm2;simp only [FS.seth, FS.kill, hmd, if_false] at hm1;obtain ⟨z', hz', _⟩ := Option.map_eq_some_iff.1 hm1;exact ho (.inr (.inl ⟨m, z', hz', hm2⟩))
    · exact ho (.inr (.inr hb'))
  · exact Nh (hx c (List.mem_of_getElem? hi)) (k6 i c hi)
 refine ⟨v, _, rfl, hnew.1, ?_⟩;simp only [Conc];exact ⟨by rw [Al]; exact hy.1, hy.2⟩
theorem Aud (x : PV) (p : Nat → Prop) : (∃ n, SV.pv x = SV.os n ∧ p n) = False := by simp
theorem Aow (n : Nat) (q : Prop) : (∃ z, SV.os n = SV.pv (.sl true z []) ∧ q) = False := by simp
theorem Azi (z0 : Nat) (q : Prop) : (∃ z, SV.pv (.sl true z0 []) = SV.pv (.sl true z []) ∧ q) = q := propext ⟨fun ⟨_, _, h⟩ => h, fun h => ⟨z0, rfl, h⟩⟩
theorem Ady (h) : Ei h [] = [] := (rfl)
theorem Aa4 (h n l) : Ei h (n :: l) = (n, h n) :: Ei h l := (rfl)
theorem Aas : A9 [] = [] := (rfl)
theorem Aat (x l) : A9 (x :: l) = Kk x ++ A9 l := (rfl)
theorem Anc (n) : Kk (.os n) = [n] := (rfl)
theorem As1 (n o) : Kk (.p n o) = [n] := (rfl)
theorem Ane (f l) : Kk (.fn f l) = A9 l := (rfl)
theorem Anb (x) : Kk (.pv x) = [] := (rfl)
attribute [go_sem] Aud Aow Azi Ady Aa4 false_or or_false Aas Aat Anc As1 Ane Anb Av2 Agh Ar1 Auw Awe Atu List.cons_append List.nil_append
end own
end Go.Proofs.Ythmjebkldgdeiaa.Fw
namespace Go.Proofs.Ythmjebkldgdeiaa.Fw
open Go.RowKit
variable {P : Program} {F : Fr} {N M : Nat} {ρ : Nat → Value} {s : FS} {a b : Act} {w w' : World} {V : View} {X : Frs}
def sh : Nat := 1000001
def gh : Nat := 1000000
theorem Ad0 : gh = Gj := rfl
theorem Acs : sh = Gj + 1 := rfl
attribute [irreducible] sh gh
def FS.dn (s : FS) : FS := ⟨fun n => s.t (n + sh), s.h⟩
def FS.enter (s : FS) (args : List SV) : FS := ⟨fun n => if n < Gj then lk .dead n (Ca 0 args) else if n = gh then .pv (.i .i64 0) else s.t (n - sh), s.h⟩
def N9 : List Nat → List SV → List (Nat × SV)
 | p :: ps, x :: l => (p, x) :: N9 ps l
 | _, _ => []
def FS.round (s : FS) (ps : List Nat) (args : List SV) : FS := ⟨fun n => if n < Gj then lk (s.t (n + sh)) n (N9 ps args).reverse else if n = gh then .dead else s.t (n - sh), s.h⟩
def G4 (g : Int) : Option Code := if g = 0 then none else if g = 1 then some .ret else some (.exit (g - 2).toNat)
def Ff (fn : Nat) (tm : Array Value) (qs : Array Tmp) (as bd : Code) (D : Nat) (st : LoopState) (pe : Option Code) : Obj := .loop { state := st, pending := pe, fn, tmps := tm, params := qs, assign := as, body := bd, defers := D }
theorem Tn (w : World) (l : Nat) (o o' : Obj) : (w.putObj l o).putObj l o' = w.putObj l o' := by
 simp only [World.putObj, World.mk.injEq, and_true, true_and];apply Array.ext_getElem?;intro i;simp only [Array.getElem?_setIfInBounds, Array.size_setIfInBounds];by_cases h : l = i
 · simp [h]
 · simp [h]
theorem Zy {w : World} {l : Nat} {o : Obj} (h : w.heap[l]? = some o) : w.putObj l o = w := by
 have : w.heap.setIfInBounds l o = w.heap := by
  apply Array.ext_getElem?;intro i;simp only [Array.getElem?_setIfInBounds];by_cases e : l = i
  · subst e;obtain ⟨h1, h2⟩ := Array.getElem?_eq_some_iff.1 h;simp [h1, h2]
  · simp [e]
 unfold World.putObj;rw [this]
theorem RelR.turn {F1 F2 : Fr} {s' : FS} (h : RelR F1 M ρ s b w) (e0 : F2.w0 = F1.w0) (e1 : F2.M0 = F1.M0) (e2 : F2.hid = F1.hid) (eh : s'.h = s.h) (hs : a.tmps.size = N) (hd : a.defers = F2.defs) (ht : ∀ n, Conc (Ai w (F1.out ρ s.h)) ρ (s'.t n) (F2.val a n)) : RelR F2 N ρ s' a w := by
 have ho : F2.out ρ s.h = F1.out ρ s.h := by unfold Fr.out; rw [e2]
 refine ⟨⟨by rw [e0]; exact h.fr.os, by rw [e0]; exact h.fr.tape, by rw [e0]; exact h.fr.output, by rw [e0]; exact h.fr.size, by rw [e0, e1]; exact h.fr.block, by rw [e0, e1, e2]; exact h.fr.hid⟩, by rw [eh, e0, e1]; exact h.may, by rw [eh, ho]; exact h.own, by rw [eh]; exact h.inj, by rw [eh, ho]; exact ht, hs, hd⟩
def Eg (F : Fr) (a : Act) (w0 : World) (B : Nat) (l : Nat) (o : LoopState → Option Code → Obj) (g : Int) : Fr :=
 ⟨w0.putObj l (o (if g = 0 then .ready else .done) (G4 g)), fun b => F.M0 b ∨ (F.w0.heap.size ≤ b ∧ b < B), F.hid, fun n => if n = gh then .int .i64 g else F.val a (n - sh), []⟩
theorem R5 (F a w0 B l o g) : (Eg F a w0 B l o g).val b gh = .int .i64 g := by
 unfold Fr.val;rw [if_neg (by have := Ad0; omega)];simp only [Eg, if_true]
theorem Yf (F a w0 B l o g) (n : Nat) : (Eg F a w0 B l o g).val b (n + sh) = F.val a n := by
 have h1 := Ad0;have h2 := Acs;rw [Fr.val, if_neg (by omega)];simp only [Eg];rw [if_neg (by omega), Nat.add_sub_cancel]
theorem Atk (F a w0 B l o g g') {n : Nat} (h : n ≠ gh) : (Eg F a w0 B l o g').val b n = (Eg F a w0 B l o g).val b n := by
 unfold Fr.val;split
 · rfl
 · simp only [Eg];rw [if_neg h, if_neg h]
structure ItCtx (P : Program) (N : Nat) (ps : List Nat) (ca cb : C) (l : Nat) (XI : Frs) : Prop where
 ctx : ∃ (F : Fr) (a : Act) (w0 : World) (B fn D : Nat) (qs : Array Tmp) (as bd : Code),
  (XI = fun F' => ∃ g : Int, 0 ≤ g ∧ F' = Eg F a w0 B l (Ff fn a.tmps qs as bd D) g) ∧ Bj P N as = some ca ∧ Bj P N bd = some cb ∧ qs.toList = ps ∧ (∀ p ∈ ps, p < N ∧ p < Gj) ∧
  a.tmps.size = N ∧ B ≤ l ∧ l < w0.heap.size ∧ ¬ F.M0 l
theorem Aiw (ps : List (Nat × Value)) : ∀ (t : Array Value), (ps.foldl (fun t (p, v) => t.setIfInBounds p v) t).size = t.size := by
 induction ps with
 | nil => intro t; rfl
 | cons p ps ih => intro t; rw [List.foldl_cons, ih]; simp
theorem Z1 {x0 : SV} : ∀ {ps : List Nat} {args : List SV} {vs : List Value} {t : Array Value} {n : Nat}, (∀ p ∈ ps, p < t.size) → ConcL V ρ args vs → ps.length = vs.length → ∀ (l : List (Nat × SV)),
 Conc V ρ (lk x0 n l) (t.getD n undef) → Conc V ρ (lk x0 n ((N9 ps args).reverse ++ l)) (((ps.zip vs).foldl (fun t (p, v) => t.setIfInBounds p v) t).getD n undef)
 | [], args, vs, t, n, _, hc, hl, l, h => by simpa [N9] using h
 | p :: ps, args, vs, t, n, hp, hc, hl, l, h => by
   cases args with
   | nil => simp only [ConcL] at hc; subst hc; simp at hl
   | cons x args =>
     simp only [ConcL] at hc;obtain ⟨v, us, rfl, h1, h2⟩ := hc;have := Z1 (x0 := x0) (ps := ps) (args := args) (vs := us) (t := t.setIfInBounds p v) (n := n) (fun q hq => by simpa using hp q (List.mem_cons_of_mem _ hq)) h2 (by simpa using hl) ((p, x) :: l) (by
      simp only [lk];rw [Array.getD_eq_getD_getElem?, Array.getElem?_setIfInBounds];by_cases e : n = p
      · subst e; simp [hp n List.mem_cons_self, h1]
      · rw [if_neg e, if_neg (Ne.symm e)];rw [Array.getD_eq_getD_getElem?] at h; exact h)
     simpa [N9] using this
theorem Jc : ∀ {l : List SV} {vs : List Value}, ConcL V ρ l vs → vs.length = l.length
 | [], vs, h => by simp only [ConcL] at h; subst h; rfl
 | x :: l, vs, h => by
   simp only [ConcL] at h;obtain ⟨v, us, rfl, _, h⟩ := h;simp [Jc h]
def asQ (K : FS → Prop) : Cc
 | .normal, s => K s
 | _, _ => False
def Avx (K : KK) : Cc
 | .normal, s => K (.pv (.b true)) [.set s.dn.t s.dn.h]
 | .ret, s => K (.pv (.b false)) [.set (s.dn.set gh (.pv (.i .i64 1))).t s.dn.h]
 | .exit k, s => K (.pv (.b false)) [.set (s.dn.set gh (.pv (.i .i64 (k + 2 : Nat)))).t s.dn.h]
def Adx (s : FS) : Option SV → FS
 | some y => s.set gh y
 | none => s
theorem Acv {FB : Fr} {s2 : FS} {a3 : Act} {F : Fr} {a : Act} {w0 : World} {B l : Nat} {o : LoopState → Option Code → Obj} {g g' : Int} {x : Option SV} (h : RelR FB N ρ s2 a3 w)
 (e0 : FB.w0 = w0.putObj l (o (if g' = 0 then .ready else .done) (G4 g'))) (e1 : FB.M0 = (Eg F a w0 B l o g).M0) (e2 : FB.hid = F.hid) (e3 : FB.x = fun n => if sh ≤ n then (Eg F a w0 B l o g).val b (n - sh) else undef)
 (hb : b.tmps.size = M) (hbd : b.defers = []) (hx : (g' = g ∧ x = none) ∨ x = some (.pv (.i .i64 g'))) :
 RelR (Eg F a w0 B l o g') M ρ (Adx s2.dn x) b w := by
 have ho : (Eg F a w0 B l o g').out ρ s2.h = FB.out ρ s2.h := by
  unfold Fr.out;rw [e2]; rfl
 have hh : ∀ n, (Adx s2.dn x).h n = s2.h n := fun n => by cases x <;> rfl
 have hH : (Adx s2.dn x).h = s2.h := funext hh;refine ⟨⟨?_, ?_, ?_, ?_, ?_, ?_⟩, ?_, ?_, ?_, fun n => ?_, hb, hbd⟩
 · rw [h.fr.os, e0]; rfl
 · rw [h.fr.tape, e0]; rfl
 · rw [h.fr.output, e0]; rfl
 · have := h.fr.size; rw [e0] at this; exact this
 · have := h.fr.block; rw [e0, e1] at this; exact this
 · have := h.fr.hid; rw [e0, e1, e2] at this; exact this
 · rw [hH]; have := h.may; rw [e0, e1] at this; exact this
 · rw [hH, ho]; exact h.own
 · rw [hH]; exact h.inj
 · rw [hH, ho];have key : n ≠ gh ∨ x = none → Conc (Ai w (FB.out ρ s2.h)) ρ (s2.dn.t n) ((Eg F a w0 B l o g').val b n) := fun hn => by
    have := h.tmps (n + sh);have hge : ¬ n + sh < Gj := by have := Acs; omega
    rw [Fr.val, if_neg hge, e3] at this;simp only [Nat.add_sub_cancel, Nat.le_add_left, if_true] at this;have hv : (Eg F a w0 B l o g').val b n = (Eg F a w0 B l o g).val b n := by
     by_cases e : n = gh
     · rcases hn with hn | hn
       · exact absurd e hn
       · rcases hx with ⟨rfl, _⟩ | hx
         · rfl
         · rw [hn] at hx; cases hx
     · exact Atk _ _ _ _ _ _ _ _ e
    rw [hv]; exact this
   cases x with
   | none => exact key (.inr rfl)
   | some y =>
     simp only [Adx, FS.set];by_cases hn : n = gh
     · subst hn;rw [if_pos rfl];rcases hx with ⟨_, hx⟩ | hx
       · cases hx
       · cases hx;rw [R5];simp only [Conc];exact .i _ _
     · rw [if_neg hn];exact key (.inl hn)
theorem Ab1 (hm : P.follows .mixedOrders = true) {ps : List Nat} {ca cb : C} {l : Nat} {XI : Frs} (hc : ItCtx P N ps ca cb l XI) {args : List SV} {K : KK} (hg : s.t gh = .pv (.i .i64 0)) (hlen : args.length = ps.length)
 (hrun : ∀ XA XB, sx (Hq P (some l) XA N) ca (asQ fun s1 => sx (Hq P (some l) XB N) cb (Avx K) s1) (s.round ps args)) : (Hq P none XI M).yld l args K s := by
 obtain ⟨F, a, w0, B, fn, D, qs, as, bd, rfl, hca, hcb, hqs, hps, hsz, hBl, hl0, hM⟩ := hc;show Aqp P _ M l args K s;rintro F' ρ b w ⟨g, hg0, rfl⟩ hR vs hvs;have eg : g = 0 := by
  have := hR.tmps gh;rw [hg, R5] at this;simp only [Conc] at this;generalize hv : Value.int .i64 g = v at this;cases this;cases hv; rfl
 subst eg;have hO : ∀ st pe, ∃ r : Loop, Ff fn a.tmps qs as bd D st pe = .loop r ∧ r = { state := st, pending := pe, fn, tmps := a.tmps, params := qs, assign := as, body := bd, defers := D } := fun st pe => ⟨_, rfl, rfl⟩
 have hlM : ¬ (F.M0 l ∨ (F.w0.heap.size ≤ l ∧ l < B)) := fun h => h.elim hM fun h => by omega
 have hlw : l < (w0.putObj l (Ff fn a.tmps qs as bd D .ready none)).heap.size := by simpa using hl0
 have hrec : w.heap[l]? = some (Ff fn a.tmps qs as bd D .ready none) := by
  rw [hR.fr.block l hlw hlM];exact World.putObj_heap_same hl0
 have hy := run_yield (P := P) (args := (⟨vs⟩ : Array Value)) hrec (by
  have := Jc hvs;show vs.length = qs.size;rw [this, hlen, ← hqs]; simp)
 refine ⟨fn, _, as, bd, hy, roundIn_of_wpIn (F := Gd none) trivial ?_⟩;simp only
 let FA : Fr := ⟨w0.putObj l (Ff fn a.tmps qs as bd D .ready none), fun b => F.M0 b ∨ (F.w0.heap.size ≤ b ∧ b < B), F.hid, fun n => if sh ≤ n then (Eg F a w0 B l (Ff fn a.tmps qs as bd D) 0).val b (n - sh) else undef, []⟩
 have hRA : RelR FA N ρ (s.round ps args) { tmps := (qs.zip (⟨vs⟩ : Array Value)).foldl (fun t (p, v) => t.setIfInBounds p v) a.tmps, defers := [] } w := by
  refine RelR.turn hR rfl rfl rfl rfl ?_ rfl fun n => ?_;rotate_left
  · have e : (qs.zip (⟨vs⟩ : Array Value)).foldl (fun t (p, v) => t.setIfInBounds p v) a.tmps = (ps.zip vs).foldl (fun t (p, v) => t.setIfInBounds p v) a.tmps := by
     rw [← Array.foldl_toList, Array.toList_zip, hqs]
    unfold Fr.val;simp only [FS.round];by_cases h1 : n < Gj
    · rw [if_pos h1, if_pos h1, e];have := Z1 (x0 := s.t (n + sh)) (ps := ps) (t := a.tmps) (n := n) (fun p hp => by rw [hsz]; exact (hps p hp).1) hvs (by rw [Jc hvs, hlen]) [] (by
       simp only [lk];have := hR.tmps (n + sh);rw [Yf, Fr.val_lt h1] at this;exact this)
      rw [List.append_nil] at this;exact this
    · rw [if_neg h1, if_neg h1];by_cases h2 : n = gh
      · rw [if_pos h2]; simp only [Conc]
      · rw [if_neg h2];have h3 : sh ≤ n := by have := Ad0; have := Acs; omega
        have e4 : FA.x n = (Eg F a w0 B l (Ff fn a.tmps qs as bd D) 0).val b (n - sh) := by
         show (if sh ≤ n then _ else undef) = _;rw [if_pos h3]
        rw [e4];exact hR.tmps (n - sh)
  · show ((qs.zip (⟨vs⟩ : Array Value)).foldl (fun t (p, v) => t.setIfInBounds p v) a.tmps).size = N;rw [← Array.foldl_toList, Aiw]; exact hsz
 refine wpIn_mono (Ku (r := some l) (X := fun F => F = FA) hm hca (hrun _ (fun F => F = { FA with w0 := FA.w0.putObj l (Ff fn a.tmps qs as bd D .busy none) })) ⟨FA, rfl, ρ, hRA⟩) fun e a1 w1 he => ?_;cases e with
 | normal =>
   obtain ⟨s1, ⟨_, rfl, ρ1, hR1⟩, hrun2⟩ := he;have hrec1 : w1.heap[l]? = some (Ff fn a.tmps qs as bd D .ready none) := by
    rw [hR1.fr.block l hlw hlM];exact World.putObj_heap_same hl0
   refine ⟨_, run_beginRound hrec1 rfl, ?_⟩;have hR2 := hR1.obj (Ff fn a.tmps qs as bd D .busy none) hrec1 rfl hlw hlM;refine wpIn_mono (Ku (r := some l) (X := fun F => F = { FA with w0 := FA.w0.putObj l (Ff fn a.tmps qs as bd D .busy none) }) hm hcb hrun2 ⟨_, rfl, ρ1, hR2⟩) fun e a3 w3 he => ?_;have fin : ∀ (s2 : FS) (ρ2 : Nat → Value) (g' : Int) (x : Option SV) (jump : Option Code), RelR { FA with w0 := FA.w0.putObj l (Ff fn a.tmps qs as bd D .busy none) } N ρ2 s2 a3 w3 → jump = G4 g' → (jump.isNone = true ↔ g' = 0) → ((g' = 0 ∧ x = none) ∨ x = some (.pv (.i .i64 g'))) → 0 ≤ g' →
    K (.pv (.b jump.isNone)) [.set (Adx s2.dn x).t s2.dn.h] →
    ∃ v w', (Instr.endRound l jump).run P w3 = .ok v w' ∧ ∃ v' x u F' ρ', Ending.returned v = .returned v' ∧ K x u ∧ (∃ g : Int, 0 ≤ g ∧ F' = Eg F a w0 B l (Ff fn a.tmps qs as bd D) g) ∧ RelR F' M ρ' (s.hup u) b w' ∧ Conc (vw F' w' ρ' (s.hup u)) ρ' x v' := by
    intro s2 ρ2 g' x jump hR3 hj hji hx hg' hK;have hrec3 : w3.heap[l]? = some (Ff fn a.tmps qs as bd D .busy none) := by
     rw [hR3.fr.block l (by simpa [FA] using hlw) hlM];exact World.putObj_heap_same hlw
    have hst : (if jump.isNone then LoopState.ready else .done) = (if g' = 0 then .ready else .done) := by
     by_cases h : g' = 0
     · rw [if_pos h, if_pos (hji.2 h)]
     · rw [if_neg h, if_neg (fun e => h (hji.1 e))]
    refine ⟨_, _, run_endRound jump hrec3, _, .pv (.b jump.isNone), _, Eg F a w0 B l (Ff fn a.tmps qs as bd D) g', ρ2, rfl, hK, ⟨g', hg', rfl⟩, ?_, ?_⟩
    · have hR4 := hR3.obj (Ff fn a.tmps qs as bd D (if g' = 0 then .ready else .done) (G4 g')) hrec3 rfl (by simpa [FA] using hlw) hlM;have hb := Acv (M := M) (b := b) (F := F) (a := a) (w0 := w0) (B := B) (l := l) (o := Ff fn a.tmps qs as bd D) (g := 0) (g' := g') (x := x) hR4 (by simp only [FA, Tn]) rfl rfl rfl hR.size hR.defers hx;have ew : w3.putObj l (.loop { state := if jump.isNone then .ready else .done, pending := jump, fn, tmps := a.tmps, params := qs, assign := as, body := bd, defers := D }) = w3.putObj l (Ff fn a.tmps qs as bd D (if g' = 0 then .ready else .done) (G4 g')) := by
       rw [hst, hj]; rfl
      show RelR _ M ρ2 (s.hup [.set _ _]) b (w3.putObj l (.loop { state := if jump.isNone then .ready else .done, pending := jump, fn, tmps := a.tmps, params := qs, assign := as, body := bd, defers := D }));rw [ew];have eh : s.hup [.set (Adx s2.dn x).t s2.dn.h] = (Adx s2.dn x) := by cases x <;> rfl
      rw [eh]; exact hb
    · simp only [Conc]; exact .b _
   cases e with
   | normal =>
     obtain ⟨s2, ⟨_, rfl, ρ2, hR3⟩, hK⟩ := he;exact fin s2 ρ2 0 none none hR3 rfl (by simp) (.inl ⟨rfl, rfl⟩) (by omega) hK
   | ret =>
     obtain ⟨s2, ⟨_, rfl, ρ2, hR3⟩, hK⟩ := he;exact fin s2 ρ2 1 (some (.pv (.i .i64 1))) (some .ret) hR3 rfl (by simp) (.inr rfl) (by omega) hK
   | exit k =>
     obtain ⟨s2, ⟨_, rfl, ρ2, hR3⟩, hK⟩ := he;refine fin s2 ρ2 ((k + 2 : Nat) : Int) (some (.pv (.i .i64 ((k + 2 : Nat) : Int)))) (some (.exit k)) hR3 ?_ (by simp; omega) (.inr rfl) (by omega) hK;unfold G4;rw [if_neg (by omega), if_neg (by omega)];congr 2; omega
   | goto _ => exact he.elim
   | panic _ => exact he.elim
   | outgrown => exact he.elim
 | exit id => obtain ⟨_, _, h⟩ := he; exact h.elim
 | ret => obtain ⟨_, _, h⟩ := he; exact h.elim
 | goto _ => exact he.elim
 | panic _ => exact he.elim
 | outgrown => exact he.elim
end Go.Proofs.Ythmjebkldgdeiaa.Fw
namespace Go.Proofs.Ythmjebkldgdeiaa.Fw
open Go.RowKit
variable {P : Program} {F : Fr} {N M : Nat} {ρ : Nat → Value} {s : FS} {a b : Act} {w w' : World} {V : View} {X : Frs}
def itK (Q : Cc) (s : FS) : SV → Prop
 | .pv (.i _ g) => if g = 0 then Q .normal s.dn else if g = 1 then Q .ret s.dn else Q (.exit (g - 2).toNat) s.dn
 | _ => False
def itQ (Q : Cc) : Cc
 | .normal, s => itK Q s (s.t gh)
 | .ret, s => itK Q s (s.t gh)
 | _, _ => False
theorem Aa0 (F a w0 B l o g) (h : Nat → Option Blk) : (Eg F a w0 B l o g).out ρ h = F.out ρ h := rfl
theorem Oq (F a w0 B l o g) (b) : (Eg F a w0 B l o g).M0 b = (F.M0 b ∨ (F.w0.heap.size ≤ b ∧ b < B)) := rfl
theorem Atj (F a w0 B l o) (h : w0.heap[l]? = some (o .ready none)) : (Eg F a w0 B l o 0).w0 = w0 := by
 show w0.putObj l (o (if (0 : Int) = 0 then .ready else .done) (G4 0)) = w0;exact Zy h
theorem Acw (hm : P.follows .mixedOrders = true) {F0 : Fr} {f : Nat} {cap : List SV} {ps : List Nat} {ca cb cf : C} {Q : Cc} (hf : A7 P f = some (M, [], cf)) (hlen : cap.length + 1 ≤ M)
 (hrun : ∀ l XI, ItCtx P N ps ca cb l XI → sx (Hq P none XI M) cf (itQ Q) (s.enter (.fn (.yield l) [] :: cap))) : (Hq P none (Desc F0) N).rng f cap ps ca cb Q s := by
 show Av0 P none (Desc F0) N f cap ps ca cb Q s;intro as bd g qs hca hcb hqs hps F ρ a w hd hR hg;obtain ⟨fn, code, h1, h2, h3, h4, h5, h6⟩ := Sc hf;have hMb := Me hf;subst h4;simp only [Conc] at hg;obtain ⟨cv, hgv, hcap⟩ := hg;refine wpIn_rangeFunc fun fn' _ => ?_;obtain ⟨O, hO⟩ : ∃ O, O = Ff fn' a.tmps qs as bd w.heap.size := ⟨_, rfl⟩
 obtain ⟨W1, hW1⟩ : ∃ W1, (w.alloc (.deferred (some []))).alloc (O .ready none) = W1 := ⟨_, rfl⟩
 have hl1 : W1.heap[w.heap.size + 1]? = some (O .ready none) := by
  rw [← hW1]; have := World.alloc_heap_new (w.alloc (.deferred (some []))) (O .ready none); rwa [World.size_alloc] at this
 have hD1 : W1.heap[w.heap.size]? = some (.deferred (some [])) := by
  rw [← hW1]; exact (Below.heap_alloc _ _ _ (by simp)).trans (World.alloc_heap_new w _)
 have hbel : Below w.heap.size w W1 := by
  rw [← hW1]; exact (((Below.refl _ w).alloc (Nat.le_refl _) _).alloc (by simp) _)
 have hsz1 : w.heap.size + 1 < W1.heap.size := (Array.getElem?_eq_some_iff.1 hl1).1;have hgrew := Grew.of_below hbel;have hR1 := hR.grew hgrew;have hMw : ∀ b, F.M0 b → b < w.heap.size := fun b hb => Nat.lt_of_lt_of_le (hd.m0 b hb) hR.fr.size;have hent : Pg P f := Bs hf;refine ⟨w.heap.size + 1, [{ target := .collected w.heap.size, args := #[] }], W1, { target := .fn (.func f) ⟨cv⟩, args := #[.func (.yield (w.heap.size + 1)) #[] #[]] }, W1, f,
  (#[Value.func (.yield (w.heap.size + 1)) #[] #[]] : Array Value) ++ ⟨cv⟩, W1, ?_, ?_, fun _ _ => trivial, ?_, fun h => (nomatch h), ?_⟩
 · rw [← hW1, hO]; exact run_enterLoop_outer _ _ _ _ _
 · simp only [resolve, hgv];simp [go_sem]
 · simp only [invoke];exact N5 hent
 have hctx : ItCtx P N ps ca cb (w.heap.size + 1) (fun F' => ∃ g : Int, 0 ≤ g ∧ F' = Eg F a W1 w.heap.size (w.heap.size + 1) O g) :=
  ⟨F, a, W1, w.heap.size, fn', w.heap.size, qs, as, bd, by rw [hO], hca, hcb, hqs, hps, hR.size, by omega, hsz1, fun h => by have := hMw _ h; omega⟩
 have hl0 : F.w0.heap.size ≤ w.heap.size := hR.fr.size;have hRI : RelR (Eg F a W1 w.heap.size (w.heap.size + 1) O 0) fn.ntmps ρ (s.enter (.fn (.yield (w.heap.size + 1)) [] :: cap)) { tmps := ((#[Value.func (.yield (w.heap.size + 1)) #[] #[]] : Array Value) ++ (⟨cv⟩ : Array Value)) ++ Array.replicate (fn.ntmps - ((#[Value.func (.yield (w.heap.size + 1)) #[] #[]] : Array Value) ++ (⟨cv⟩ : Array Value)).size) undef, defers := [] } W1 := by
  have hcl := Jc hcap;refine ⟨?_, fun b hb => ?_, ?_, hR1.inj, fun n => ?_, by simp; omega, rfl⟩
  · have e := Atj F a W1 w.heap.size (w.heap.size + 1) O hl1;refine ⟨by rw [e], by rw [e], by rw [e], by rw [e]; exact Nat.le_refl _, fun b _ _ => by rw [e], fun b hb => ?_⟩;rw [e, Oq];have := hR.fr.hid b hb;exact ⟨by omega, fun h => h.elim this.2 fun h => by omega⟩
  · rw [Oq];rcases hR.may b hb with h | h
    · exact .inr (.inr ⟨h, hR.lt hb⟩)
    · exact .inr (.inl h)
  · rw [Aa0]; exact hR1.own
  · rw [Aa0];show Conc _ ρ (if n < Gj then _ else if n = gh then _ else _) _;by_cases hn : n < Gj
    · rw [if_pos hn, Fr.val_lt hn];have hcv : ConcL (vw F W1 ρ s) ρ (.fn (.yield (w.heap.size + 1)) [] :: cap) (.func (.yield (w.heap.size + 1)) #[] #[] :: cv) := by
       simp only [ConcL];exact ⟨_, _, rfl, by simp only [Conc, ConcL]; exact ⟨[], rfl, rfl⟩, hcap.mono (hR.le_of_grew hgrew)⟩
      have := Fc 0 n hcv;simp only [Nat.zero_le, if_true, Nat.sub_zero] at this;have he : (((#[Value.func (.yield (w.heap.size + 1)) #[] #[]] : Array Value) ++ (⟨cv⟩ : Array Value)) ++ Array.replicate (fn.ntmps - ((#[Value.func (.yield (w.heap.size + 1)) #[] #[]] : Array Value) ++ (⟨cv⟩ : Array Value)).size) undef).getD n undef = ((Value.func (.yield (w.heap.size + 1)) #[] #[] :: cv)[n]?).getD undef := by
       have ea : ((#[Value.func (.yield (w.heap.size + 1)) #[] #[]] : Array Value) ++ (⟨cv⟩ : Array Value)) = (⟨.func (.yield (w.heap.size + 1)) #[] #[] :: cv⟩ : Array Value) := Array.toList_inj.1 (by simp);rw [ea, Array.getD_eq_getD_getElem?];by_cases hn : n < (Value.func (.yield (w.heap.size + 1)) #[] #[] :: cv).length
       · rw [Array.getElem?_append_left (by simpa using hn)]; simp
       · rw [Array.getElem?_append_right (by simpa using hn)];rw [List.getElem?_eq_none (by omega)];simp only [Array.getElem?_replicate, Option.getD_none];split <;> rfl
      rw [he]; exact this
    · rw [if_neg hn];by_cases h2 : n = gh
      · rw [if_pos h2, h2, R5]; simp only [Conc]; exact .i _ _
      · rw [if_neg h2];have h3 : n = (n - sh) + sh := by have := Ad0; have := Acs; omega
        have e4 : (Eg F a W1 w.heap.size (w.heap.size + 1) O 0).val { tmps := ((#[Value.func (.yield (w.heap.size + 1)) #[] #[]] : Array Value) ++ (⟨cv⟩ : Array Value)) ++ Array.replicate (fn.ntmps - ((#[Value.func (.yield (w.heap.size + 1)) #[] #[]] : Array Value) ++ (⟨cv⟩ : Array Value)).size) undef, defers := [] } n = F.val a (n - sh) := by
         conv => lhs; rw [h3]
         exact Yf _ _ _ _ _ _ _ _
        rw [e4];exact hR1.tmps (n - sh)
 refine callsIn_of_wp (F := Gd none) (n := 0 - 1) h1 h3 trivial (wpIn_mono (n := 0 - 1) (Ku hm h6 (hrun _ _ hctx) ⟨_, ⟨0, by omega, rfl⟩, ρ, hRI⟩) fun e a' w' he => ?_);have hres : ∀ (F' : Fr) (ρ' : Nat → Value) (s' : FS), RelR F' fn.ntmps ρ' s' a' w' → ∃ v, (results fn a'.tmps).run P w' = .ok v w' := fun F' ρ' s' hR' => by
  obtain ⟨l, v, _, _, k3⟩ := Q0 (P := P) (K := fun _ => True) hR' h5 trivial;exact ⟨v, k3⟩
 have fin : ∀ (s' : FS), RelX (fun F' => ∃ g : Int, 0 ≤ g ∧ F' = Eg F a W1 w.heap.size (w.heap.size + 1) O g) fn.ntmps s' a' w' → itK Q s' (s'.t gh) → a'.defers = [] ∧ ∃ v, (results fn a'.tmps).run P w' = .ok v w' ∧
  rangePost (Gd none) 0 P (w.heap.size + 1) (Pf (Desc F0) N Q) { a with defers := [{ target := .collected w.heap.size, args := #[] }] ++ a.defers } (.returned v) w' := by
  rintro s' ⟨_, ⟨g, hg0, rfl⟩, ρ', hR'⟩ hq;obtain ⟨v, hv⟩ := hres _ _ _ hR';refine ⟨hR'.defers, v, hv, ?_⟩;have hlM : ¬ (Eg F a W1 w.heap.size (w.heap.size + 1) O g).M0 (w.heap.size + 1) := by
   rw [Oq];rintro (h | h)
   · have := hMw _ h; omega
   · omega
  have hlt : w.heap.size + 1 < (Eg F a W1 w.heap.size (w.heap.size + 1) O g).w0.heap.size := by
   show _ < (W1.putObj _ _).heap.size;rw [World.putObj_size]; exact hsz1
  have hrec : w'.heap[w.heap.size + 1]? = some (O (if g = 0 then .ready else .done) (G4 g)) := by
   rw [hR'.fr.block _ hlt hlM];exact World.putObj_heap_same hsz1
  have hend := run_endLoop (P := P) (w := w') (l := w.heap.size + 1) (r := { state := if g = 0 then .ready else .done, pending := G4 g, fn := fn', tmps := a.tmps, params := qs, assign := as, body := bd, defers := w.heap.size }) (by rw [hrec, hO]; rfl) (by simp only; split <;> simp);refine ⟨G4 g, _, hend, ?_⟩;obtain ⟨oe, hoe⟩ : ∃ oe : Obj, oe = .loop { state := .exhausted, pending := G4 g, fn := fn', tmps := a.tmps, params := qs, assign := as, body := bd, defers := w.heap.size } := ⟨_, rfl⟩
  have hR2 := hR'.obj oe hrec (by rw [hO]; rfl) hlt hlM;have ew0 : (Eg F a W1 w.heap.size (w.heap.size + 1) O g).w0.putObj (w.heap.size + 1) oe = W1.putObj (w.heap.size + 1) oe := Tn _ _ _ _;have hR3 : RelR ⟨W1.putObj (w.heap.size + 1) oe, (Eg F a W1 w.heap.size (w.heap.size + 1) O g).M0, F.hid, F.x, [{ target := .collected w.heap.size, args := #[] }] ++ F.defs⟩ N ρ' s'.dn { a with defers := [{ target := .collected w.heap.size, args := #[] }] ++ a.defers } (w'.putObj (w.heap.size + 1) oe) := by
   refine RelR.turn hR2 ew0.symm rfl rfl rfl hR.size (by show _ ++ a.defers = _ ++ F.defs; rw [hR.defers]) fun n => ?_;have := hR2.tmps (n + sh);have e5 : ({ Eg F a W1 w.heap.size (w.heap.size + 1) O g with w0 := (Eg F a W1 w.heap.size (w.heap.size + 1) O g).w0.putObj (w.heap.size + 1) oe } : Fr).val a' (n + sh) = F.val a n := Yf F a W1 w.heap.size (w.heap.size + 1) O g n;rw [e5] at this;exact this
  have hdesc : Desc F0 ⟨W1.putObj (w.heap.size + 1) oe, (Eg F a W1 w.heap.size (w.heap.size + 1) O g).M0, F.hid, F.x, [{ target := .collected w.heap.size, args := #[] }] ++ F.defs⟩ := by
   have hb := hd.base;have hW : ∀ b, b < w.heap.size → (W1.putObj (w.heap.size + 1) oe).heap[b]? = w.heap[b]? := fun b hlt => by
    rw [World.putObj_heap_other (by omega)]; exact hgrew.block b hlt
   have hs1 : (W1.putObj (w.heap.size + 1) oe).heap.size = W1.heap.size := World.putObj_size;refine ⟨⟨?_, ?_, ?_, ?_, fun b hlt hm => ?_, hb.hid⟩, fun b h => ?_, fun b h => ?_, hd.hid, hd.x, ⟨w.heap.size, rfl, ?_, ?_, ?_, ?_, ?_⟩, ?_⟩
   · exact (hgrew.os.trans hR.fr.os).trans hb.os
   · exact (hgrew.tape.trans hR.fr.tape).trans hb.tape
   · exact (hgrew.output.trans hR.fr.output).trans hb.output
   · show _ ≤ (W1.putObj (w.heap.size + 1) oe).heap.size;rw [hs1]; have := hb.size; omega
   · show (W1.putObj (w.heap.size + 1) oe).heap[b]? = _;have h8 := hb.size;rw [hW b (by omega), hR.fr.block b (by omega) fun e => ?_]
     · exact hb.block b hlt hm
     · rcases hd.may b (.inr e) with h9 | h9
       · omega
       · exact hm h9
   · show b < (W1.putObj (w.heap.size + 1) oe).heap.size;rw [hs1];rcases h with h | h
     · have := hMw b h; omega
     · omega
   · have h' : (W1.putObj (w.heap.size + 1) oe).heap.size ≤ b ∨ (F.M0 b ∨ (F.w0.heap.size ≤ b ∧ b < w.heap.size)) := h;rw [hs1] at h';have h8 := hb.size;rcases h' with h | h | h
     · exact .inl (by omega)
     · exact hd.may b (.inr h)
     · exact .inl (by omega)
   · have := hb.size; omega
   · show _ < (W1.putObj (w.heap.size + 1) oe).heap.size;rw [hs1]; omega
   · rw [Oq];rintro (h | h)
     · have := hMw _ h; omega
     · omega
   · show (W1.putObj (w.heap.size + 1) oe).heap[w.heap.size]? = _;rw [World.putObj_heap_other (by omega)]; exact hD1
   · have hmk := hd.marks;intro e he;clear hR3 hR2 hR hR1 hRI hR';generalize F.defs = ds at hmk he
     induction ds with
     | nil => cases he
     | cons d ds ih =>
       obtain ⟨⟨E, rfl, _, k2, _⟩, hmk⟩ := hmk;rcases List.mem_cons.1 he with rfl | he
       · intro e;simp only [Target.collected.injEq] at e;omega
       · exact ih hmk he
   · have hbl := hR.fr.block;have key : ∀ (FF : Fr), FF.w0 = W1.putObj (w.heap.size + 1) oe → FF.M0 = (Eg F a W1 w.heap.size (w.heap.size + 1) O g).M0 → ∀ ds, Abx F0 F ds → Abx F0 FF ds := fun FF f1 f2 ds hmk => by
      induction ds with
      | nil => trivial
      | cons d ds ih =>
        obtain ⟨⟨E, rfl, k1, k2, k3, k4, k5⟩, hmk⟩ := hmk;refine ⟨⟨E, rfl, k1, ?_, ?_, ?_, k5⟩, ih hmk⟩
        · rw [f1, hs1]; omega
        · rw [f2, Oq];rintro (h | h)
          · exact k3 h
          · omega
        · rw [f1, hW E (by omega), hbl E k2 k3]; exact k4
     exact key ⟨W1.putObj (w.heap.size + 1) oe, (Eg F a W1 w.heap.size (w.heap.size + 1) O g).M0, F.hid, F.x, [{ target := .collected w.heap.size, args := #[] }] ++ F.defs⟩ rfl rfl _ hd.marks
  have hghv : ∃ k, s'.t gh = .pv (.i k g) := by
   have := hR'.tmps gh;rw [R5] at this;generalize s'.t gh = z at hq this;unfold itK at hq;split at hq
   · rename_i k g';simp only [Conc] at this;cases this;exact ⟨_, rfl⟩
   · exact hq.elim
  obtain ⟨k, hk⟩ := hghv;rw [hk] at hq;simp only [itK] at hq;rw [← hoe];have hrel : RelX (Desc F0) N s'.dn { a with defers := [{ target := .collected w.heap.size, args := #[] }] ++ a.defers } (w'.putObj (w.heap.size + 1) oe) := ⟨_, hdesc, ρ', hR3⟩
  unfold G4;by_cases e0 : g = 0
  · rw [if_pos e0] at hq ⊢;exact ⟨s'.dn, hrel, hq⟩
  · rw [if_neg e0] at hq ⊢;by_cases e1 : g = 1
    · rw [if_pos e1] at hq ⊢;exact wpIn_ret ⟨s'.dn, hrel, hq⟩
    · rw [if_neg e1] at hq ⊢;exact wpIn_exit ⟨s'.dn, hrel, hq⟩
 cases e with
 | normal => obtain ⟨s', h, hq⟩ := he; exact fin s' h hq
 | ret => obtain ⟨s', h, hq⟩ := he; exact fin s' h hq
 | exit id => obtain ⟨_, _, h⟩ := he; exact h.elim
 | goto _ => exact he.elim
 | panic _ => exact he.elim
 | outgrown => exact he.elim
end Go.Proofs.Ythmjebkldgdeiaa.Fw
namespace Go.Proofs.Ythmjebkldgdeiaa.Fw
open Go.RowKit
def shT : List (Nat × SV) → List (Nat × SV)
 | [] => []
 | (j, x) :: l => (j + sh, x) :: shT l
def dnT : List (Nat × SV) → List (Nat × SV)
 | [] => []
 | (j, x) :: l => if sh ≤ j then (j - sh, x) :: dnT l else dnT l
def Nb : List (Nat × SV) → List (Nat × SV)
 | [] => []
 | (j, x) :: l => if j < Gj then (j, x) :: Nb l else Nb l
theorem Ma {α : Type} (d : α) (n : Nat) : ∀ (l m : List (Nat × α)), lk d n (l ++ m) = lk (lk d n m) n l
 | [], m => rfl
 | (j, x) :: l, m => by simp only [List.cons_append, lk, Ma d n l m]
theorem R3 {α : Type} (d : α) (n : Nat) : ∀ (l : List (Nat × α)), (∀ p ∈ l, p.1 ≠ n) → lk d n l = d
 | [], _ => rfl
 | (j, x) :: l, h => by
   simp only [lk];rw [if_neg (fun e => h (j, x) List.mem_cons_self e.symm)];exact R3 d n l fun p hp => h p (List.mem_cons_of_mem _ hp)
theorem T2 (n : Nat) : ∀ l : List (Nat × SV), lk .dead n (shT l) = if sh ≤ n then lk .dead (n - sh) l else .dead
 | [] => by simp [shT, lk]
 | (j, x) :: l => by
   simp only [shT, lk, T2 n l];by_cases h : sh ≤ n
   · simp only [h, if_true];by_cases e : n = j + sh
     · rw [if_pos e, if_pos (by omega)]
     · rw [if_neg e, if_neg (by omega)]
   · rw [if_neg (by omega), if_neg h, if_neg h]
theorem Yb (n : Nat) : ∀ l : List (Nat × SV), lk .dead n (dnT l) = lk .dead (n + sh) l
 | [] => by simp [dnT, lk]
 | (j, x) :: l => by
   simp only [dnT, lk];by_cases h : sh ≤ j
   · simp only [h, if_true, lk, Yb n l];by_cases e : n = j - sh
     · rw [if_pos e, if_pos (by omega)]
     · rw [if_neg e, if_neg (by omega)]
   · rw [if_neg h, if_neg (by omega), Yb n l]
theorem Ya (n : Nat) : ∀ l : List (Nat × SV), lk .dead n (Nb l) = if n < Gj then lk .dead n l else .dead
 | [] => by simp [Nb, lk]
 | (j, x) :: l => by
   simp only [Nb, lk];by_cases h : j < Gj
   · simp only [h, if_true, lk, Ya n l];by_cases e : n = j
     · subst e; simp [h]
     · simp [e]
   · rw [if_neg h, Ya n l];by_cases hn : n < Gj
     · simp only [hn, if_true]; rw [if_neg (by omega)]
     · simp [hn]
theorem Abl : ∀ (args : List SV) (k : Nat), ∀ p ∈ Ca k args, p.1 < k + args.length
 | [], k => by simp [Ca]
 | x :: l, k => by
   intro p hp;simp only [Ca, List.mem_cons] at hp;rcases hp with rfl | hp
   · simp
   · have := Abl l (k + 1) p hp;simp only [List.length_cons]; omega
theorem Z2 : ∀ (ps : List Nat) (args : List SV), ∀ p ∈ N9 ps args, p.1 ∈ ps
 | [], args => by simp [N9]
 | q :: ps, [] => by simp [N9]
 | q :: ps, x :: args => by
   intro p hp;simp only [N9, List.mem_cons] at hp;rcases hp with rfl | hp
   · simp
   · exact List.mem_cons_of_mem _ (Z2 ps args p hp)
theorem Up (t h) (args : List SV) (hl : args.length ≤ Gj) : (mk t h).enter args = mk (Ca 0 args ++ (gh, .pv (.i .i64 0)) :: shT t) h := by
 have h1 := Ad0;have h2 := Acs;unfold FS.enter mk;congr 1;funext n;simp only;rw [Ma];by_cases hn : n < Gj
 · rw [if_pos hn];have : lk SV.dead n ((gh, .pv (.i .i64 0)) :: shT t) = .dead := by
    simp only [lk];rw [if_neg (by omega), T2, if_neg (by omega)]
   rw [this]
 · rw [if_neg hn, R3 _ n (Ca 0 args) fun p hp e => by have := Abl args 0 p hp; omega];simp only [lk];by_cases e : n = gh
   · rw [if_pos e, if_pos e]
   · rw [if_neg e, if_neg e, T2, if_pos (by omega)]
theorem A4b (t h) : (mk t h).dn = mk (dnT t) h := by
 unfold FS.dn mk;congr 1;funext n;simp only [Yb]
theorem Tj (t h) (ps : List Nat) (args : List SV) (hp : ∀ p ∈ ps, p < Gj) : (mk t h).round ps args = mk ((N9 ps args).reverse ++ (Nb (dnT t) ++ shT t)) h := by
 have h1 := Ad0;have h2 := Acs;unfold FS.round mk;congr 1;funext n;simp only;rw [Ma, Ma];by_cases hn : n < Gj
 · rw [if_pos hn];have e1 : lk SV.dead n (shT t) = .dead := by rw [T2, if_neg (by omega)]
   rw [e1, Ya, if_pos hn, Yb]
 · have hm : ∀ d : SV, lk d n (N9 ps args).reverse = d := fun d => R3 _ _ _ fun p hpp e => by
    have := hp _ (Z2 ps args p (List.mem_reverse.1 hpp)); omega
   have hm2 : ∀ d : SV, lk d n (Nb (dnT t)) = d := fun d => R3 _ _ _ fun p hpp e => by
    have : ∀ l : List (Nat × SV), ∀ p ∈ Nb l, p.1 < Gj := fun l => by
     induction l with
     | nil => simp [Nb]
     | cons q l ih =>
       obtain ⟨j, x⟩ := q;intro p hp;simp only [Nb] at hp;split at hp
       · rcases List.mem_cons.1 hp with rfl | hp
         · assumption
         · exact ih p hp
       · exact ih p hp
    have := this _ p hpp; omega
   rw [if_neg hn, hm, hm2, T2];by_cases e : n = gh
   · rw [if_pos e, if_neg (by omega)]
   · rw [if_neg e, if_pos (by omega)]
theorem Ale : sh = 1000001 := by rw [Acs]; rfl
theorem Ay1 : gh = 1000000 := by rw [Ad0]; rfl
theorem Art : shT [] = [] := (rfl)
theorem Alf (j x l) : shT ((j, x) :: l) = (j + 1000001, x) :: shT l := by simp only [shT, Ale]
theorem Auk : dnT [] = [] := (rfl)
theorem Apc (j x l) : dnT ((j, x) :: l) = if 1000001 ≤ j then (j - 1000001, x) :: dnT l else dnT l := by simp only [dnT, Ale]
theorem Am7 : Nb [] = [] := (rfl)
theorem Ahx (j x l) : Nb ((j, x) :: l) = if j ≤ 999999 then (j, x) :: Nb l else Nb l := by
 have hb : Gj = 1000000 := rfl;simp only [Nb];by_cases h : j ≤ 999999
 · rw [if_pos h, if_pos (by omega)]
 · rw [if_neg h, if_neg (by omega)]
theorem Alx (l) : N9 [] l = [] := by cases l <;> rfl
theorem Ahe (p x ps l) : N9 (p :: ps) (x :: l) = (p, x) :: N9 ps l := (rfl)
theorem A5j (K s) : asQ K .normal s = K s := (rfl)
theorem Aux (K s) : Avx K .normal s = K (.pv (.b true)) [.set s.dn.t s.dn.h] := (rfl)
theorem A3l (Q s) : itQ Q .normal s = itK Q s (s.t gh) := (rfl)
theorem A3m (Q s k) : itK Q s (.pv (.i k 0)) = Q .normal s.dn := by simp [itK]
theorem Ayc (t h) : (⟨(mk t h).t, (mk t h).h⟩ : FS) = mk t h := (rfl)
theorem Aw6 (rs R s) : Y8 rs R .ret s = Vl rs R s := (rfl)
theorem A3v (n z cs x) : SV.frzv n z cs (.pv x) = .pv x := (rfl)
theorem Ay3 (n z cs m x) : SV.frzv n z cs (.vec m x) = .vec m x := (rfl)
theorem Ay5 (n z cs l) : SV.frzv n z cs (.agg l) = .agg (SV.frzvL n z cs l) := (rfl)
theorem Ay4 (n z cs l) : SV.frzv n z cs (.tup l) = .tup (SV.frzvL n z cs l) := (rfl)
theorem A3x (n z cs f l) : SV.frzv n z cs (.fn f l) = .fn f (SV.frzvL n z cs l) := (rfl)
theorem A3w (n z cs a b c d) : SV.frzv n z cs (.pi a b c d) = .pi a b c d := (rfl)
theorem A6s (n z cs m o) : SV.frzv n z cs (.p m o) = if n = m then .pi z [cs] 0 o else .p m o := (rfl)
theorem At3 (n z cs) : SV.frzvL n z cs [] = [] := (rfl)
theorem Aoi (n z cs x l) : SV.frzvL n z cs (x :: l) = SV.frzv n z cs x :: SV.frzvL n z cs l := (rfl)
theorem At2 (n z cs) : O2 n z cs [] = [] := (rfl)
theorem Aoh (n z cs j x l) : O2 n z cs ((j, x) :: l) = (j, x.frzv n z cs) :: O2 n z cs l := (rfl)
theorem At4 (n z cs) : F3 n z cs [] = [] := (rfl)
theorem Aok (n z cs j l) : F3 n z cs ((j, none) :: l) = (j, none) :: F3 n z cs l := (rfl)
theorem Aoj (n z cs j x l) : F3 n z cs ((j, some x) :: l) = if j = n then (j, none) :: F3 n z cs l else (j, some (x.frzv n z cs)) :: F3 n z cs l := by
 simp only [F3]; split <;> rfl
theorem At5 (n z cs x) : Blk.frzv n z cs (.var x) = .var (x.frzv n z cs) := (rfl)
theorem Ij {T : List (Nat × SV)} {H : List (Nat × Option Blk)} {s' : FS} (n : Nat) {sz : Nat} {es : List (List PV)} (hn : lk none n H = some (.row sz es)) (h : Wk (mk (Yr n (.sl false sz es) T) (Mp n (.sl false sz es) H)) s') : Wk (mk T H) s' :=
 .frz n sz es hn (by rw [Aoo]; exact h)
theorem Xh {T : List (Nat × SV)} {H : List (Nat × Option Blk)} {s' : FS} (n : Nat) {x : SV} {cs : List PV} (hn : lk none n H = some (.var x)) (hc : x.cells? = some cs) (h : Wk (mk (O2 n x.width cs T) (F3 n x.width cs H)) s') : Wk (mk T H) s' :=
 .frzv n x cs hn hc (by rw [At6]; exact h)
attribute [go_sem] Art Alf Auk Apc Am7 Ahx Alx Ahe A5j Aux A3l A3m Ayc Aw6 A4b Ay1 A3v Ay3 Ay5 Ay4 A3x A3w A6s At3 Aoi At2 Aoh At4 Aok Aoj At5 List.reverse_cons List.reverse_nil
end Go.Proofs.Ythmjebkldgdeiaa.Fw
namespace Go.Proofs.Ythmjebkldgdeiaa.Fw
open Go.RowKit
variable {P : Program} {F : Fr} {N : Nat} {ρ ρ' : Nat → Value} {s : FS} {a : Act} {w w' : World} {V V' : View}
theorem FunOk.frz {f : Nat} {args : List SV} {h h' : Nat → Option Blk} {d : Nat} {x : SV} {u : List HU} {n sz : Nat} {es : List (List PV)} (hn : h n = some (.row sz es)) (hin : n ∈ Aw args)
 (hc : Aw (SV.frzL n (.sl false sz es) args) = []) (hf : FunOk P f (SV.frzL n (.sl false sz es) args) h' d x u) : FunOk P f args h d x (.frz n (.sl false sz es) :: u) := by
 refine ⟨hf.1, fun F N ρ s a w hR hh vs hv => ?_⟩;have hs := (hh n hin).trans hn;obtain ⟨hR', hV, hV2⟩ := hR.frz hs;have hp := (Jo hR hs).mono hV2;exact hf.2 F N ρ (s.frz n (.sl false sz es)) a w hR' (by rw [hc]; simp) vs (ConcL.frz hV hp hv)
end Go.Proofs.Ythmjebkldgdeiaa.Fw
namespace Go.Proofs.Ythmjebkldgdeiaa.Fw
open Go.RowKit
section
variable {E : Env}
theorem A4u (x d s K) : body E .rgs x d s K = Af d s.h .rgs (Bh s x) K := (rfl)
theorem A4w (x d s K) : body E .nxs x d s K = Af d s.h .nxs (Bh s x) K := (rfl)
theorem A4v (x d s K) : body E .r2s x d s K = Af d s.h .r2s (Bh s x) K := (rfl)
end
theorem A2d (d h l K) : Af d h .rgs [.pv (.s l)] K = K (.p d 0) [.new d (.it l 0)] := (rfl)
theorem A2f (d h n K) : Af d h .nxs [.p n 0] K = Tv (h n) n K := (rfl)
theorem A2e (d h k n K) : Af d h .r2s [.pv (.i k n)] K = K (.pv (.s (Ur n))) [] := (rfl)
theorem A21 {l : List UInt8} {pos : Nat} (h : pos < l.length) (n K) : Tv (some (.it l pos)) n K = K (.tup [.pv (.b true), .pv (.i .i64 pos), .pv (.i .i32 (O7 l pos).1)]) [.upd n (.it l (pos + (O7 l pos).2))] := if_pos h
theorem A22 {l : List UInt8} {pos : Nat} (h : ¬ pos < l.length) (n K) : Tv (some (.it l pos)) n K = K (.tup [.pv (.b false)]) [] := if_neg h
attribute [go_sem] A13 Ahp Ahq Ahr
attribute [go_sem] A4u A4w A4v A2d A2f A2e A21 A22
end Go.Proofs.Ythmjebkldgdeiaa.Fw
namespace Go.Proofs.Ythmjebkldgdeiaa.Fw
open Go.RowKit
variable {P : Program} {F : Fr} {N : Nat} {ρ : Nat → Value} {s : FS} {a : Act} {w : World} {V : View} {π : Nat → Nat}
mutual
def SV.rn (π : Nat → Nat) : SV → SV
 | .p m o => .p (π m) o
 | .ps m o => .ps (π m) o
 | .pr m s i o => .pr (π m) s i o
 | .os m => .os (π m)
 | .ov m z a b => .ov (π m) z a b
 | .agg l => .agg (SV.rnL π l)
 | .tup l => .tup (SV.rnL π l)
 | .fn f l => .fn f (SV.rnL π l)
 | x => x
def SV.rnL (π : Nat → Nat) : List SV → List SV
 | [] => []
 | x :: l => SV.rn π x :: SV.rnL π l
end
def Blk.rn (π : Nat → Nat) : Blk → Blk
 | .var x => .var (x.rn π)
 | b => b
def HU.rn (π : Nat → Nat) : HU → HU
 | .new n b => .new (π n) (b.rn π)
 | .upd n b => .upd (π n) (b.rn π)
 | .del n => .del (π n)
 | .frz n x => .frz (π n) x
 | .set t h => .set (fun k => (t k).rn π) (fun n => (h (π n)).map (Blk.rn π))
def FS.rn (s : FS) (π : Nat → Nat) : FS := ⟨fun k => (s.t k).rn π, fun n => (s.h (π n)).map (Blk.rn π)⟩
mutual
theorem Sq (π : Nat → Nat) : ∀ x : SV, (x.rn π).width = x.width
 | .agg l => by simp only [SV.rn, SV.width]; exact Vu π l
 | .pv _ => rfl
 | .vec _ _ => rfl
 | .tup _ => rfl
 | .p _ _ => rfl
 | .ps _ _ => rfl
 | .pr _ _ _ _ => rfl
 | .pi _ _ _ _ => rfl
 | .os _ => rfl
 | .ov _ _ _ _ => rfl
 | .fn _ _ => rfl
 | .dead => rfl
theorem Vu (π : Nat → Nat) : ∀ l : List SV, SV.widthL (SV.rnL π l) = SV.widthL l
 | [] => rfl
 | x :: l => by simp only [SV.rnL, SV.widthL, Sq π x, Vu π l]
end
mutual
theorem Conc.rn (hπ : ∀ n, π (π n) = n) : ∀ {x : SV} {v}, Conc V ρ x v → Conc V (fun n => ρ (π n)) (x.rn π) v
 | .pv x, v, h => by simp only [SV.rn, Conc] at *; exact h
 | .vec n cs, v, h => by simp only [SV.rn, Conc] at *; exact h
 | .agg l, v, h => by simp only [SV.rn, Conc] at *; obtain ⟨vs, a, b⟩ := h; exact ⟨vs, a, Cells.rn hπ b⟩
 | .tup l, v, h => by simp only [SV.rn, Conc] at *; obtain ⟨vs, a, b⟩ := h; exact ⟨vs, a, ConcL.rn hπ b⟩
 | .p m off, v, h => by simp only [SV.rn, Conc, hπ] at *; exact h
 | .ps m off, v, h => by simp only [SV.rn, Conc, hπ] at *; exact h
 | .pr m sz i off, v, h => by simp only [SV.rn, Conc, hπ] at *; exact h
 | .pi sz es i off, v, h => by simp only [SV.rn, Conc] at *; exact h
 | .os m, v, h => by simp only [SV.rn, Conc, hπ] at *; exact h
 | .ov m z a b, v, h => by simp only [SV.rn, Conc, hπ] at *; exact h
 | .fn f cap, v, h => by simp only [SV.rn, Conc] at *; obtain ⟨vs, a, b⟩ := h; exact ⟨vs, a, ConcL.rn hπ b⟩
 | .dead, v, h => by simp only [SV.rn, Conc]
theorem ConcL.rn (hπ : ∀ n, π (π n) = n) : ∀ {l : List SV} {vs}, ConcL V ρ l vs → ConcL V (fun n => ρ (π n)) (SV.rnL π l) vs
 | [], vs, h => by simp only [SV.rnL, ConcL] at *; exact h
 | x :: l, vs, h => by simp only [SV.rnL, ConcL] at *; obtain ⟨u, us, a, b, c⟩ := h; exact ⟨u, us, a, Conc.rn hπ b, ConcL.rn hπ c⟩
theorem Cells.rn (hπ : ∀ n, π (π n) = n) : ∀ {l : List SV} {vs}, Cells V ρ l vs → Cells V (fun n => ρ (π n)) (SV.rnL π l) vs
 | [], vs, h => by simp only [SV.rnL, Cells] at *; exact h
 | x :: l, vs, h => by
   simp only [SV.rnL, Cells] at *;obtain ⟨u, us, a, b, c, d, e⟩ := h;exact ⟨u, us, a, Conc.rn hπ b, by rw [Sq]; exact c, d, Cells.rn hπ e⟩
end
mutual
theorem Alp (hπ : ∀ n, π (π n) = n) : ∀ x : SV, (x.rn π).rn π = x
 | .pv x => rfl
 | .vec n cs => rfl
 | .agg l => by simp only [SV.rn, Jp hπ l]
 | .tup l => by simp only [SV.rn, Jp hπ l]
 | .p m off => by simp only [SV.rn, hπ]
 | .ps m off => by simp only [SV.rn, hπ]
 | .pr m sz i off => by simp only [SV.rn, hπ]
 | .pi sz es i off => rfl
 | .os m => by simp only [SV.rn, hπ]
 | .ov m z a b => by simp only [SV.rn, hπ]
 | .fn f cap => by simp only [SV.rn, Jp hπ cap]
 | .dead => rfl
theorem Jp (hπ : ∀ n, π (π n) = n) : ∀ l : List SV, SV.rnL π (SV.rnL π l) = l
 | [] => rfl
 | x :: l => by simp only [SV.rnL, Alp hπ x, Jp hπ l]
end
theorem Agd (hπ : ∀ n, π (π n) = n) (b : Blk) : (b.rn π).rn π = b := by
 cases b with
 | var x => simp only [Blk.rn, Alp hπ x]
 | row sz es => rfl
 | rowc sz es c => rfl
 | it l p => rfl
theorem Own.rn (hπ : ∀ n, π (π n) = n) {n : Nat} {blk : Blk} (h : Own w V ρ (π n) blk) : Own w V (fun n => ρ (π n)) n (blk.rn π) := by
 cases blk with
 | var x =>
   obtain ⟨b, vs, ty, fr, u, g1, g2, g3, g4, g5, g6, g7⟩ := h;exact ⟨b, vs, ty, fr, u, g1, g2, g3, g4.rn hπ, g5, by rw [Sq]; exact g6, g7⟩
 | row sz es => exact h
 | rowc sz es c => exact h
 | it l p => exact h
theorem RelR.rn (hπ : ∀ n, π (π n) = n) (h : RelR F N ρ s a w) : RelR F N (fun n => ρ (π n)) (s.rn π) a w := by
 have hh : ∀ n x, (s.rn π).h n = some x → ∃ y, s.h (π n) = some y ∧ x = y.rn π := fun n x hx => by
  obtain ⟨y, h1, h2⟩ := Option.map_eq_some_iff.1 hx;exact ⟨y, h1, h2.symm⟩
 have how : ∀ b, Bo (fun n => ρ (π n)) (s.rn π).h b ↔ Bo ρ s.h b := fun b => by
  constructor
  · rintro ⟨n, x, h1, h2⟩;obtain ⟨y, h3, _⟩ := hh n x h1;exact ⟨π n, y, h3, h2⟩
  · rintro ⟨n, x, h1, h2⟩;exact ⟨π n, x.rn π, by simp only [FS.rn, hπ, h1]; rfl, by simpa only [hπ] using h2⟩
 have hV : Ai w (F.out (fun n => ρ (π n)) (s.rn π).h) = Ai w (F.out ρ s.h) := by
  congr 1;funext b;exact propext (or_congr_left (how b))
 refine ⟨h.fr, fun b hb => h.may b ((how b).1 hb), fun n x hx => ?_, fun n m x y b hn hm hbn hbm => ?_, fun n => ?_, h.size, h.defers⟩
 · obtain ⟨y, h1, rfl⟩ := hh n x hx;rw [hV];exact (h.own (π n) y h1).rn hπ
 · obtain ⟨x', h1, _⟩ := hh n x hn;obtain ⟨y', h2, _⟩ := hh m y hm;have := h.inj (π n) (π m) x' y' b h1 h2 hbn hbm;have := congrArg π this;simpa only [hπ] using this
 · rw [hV];exact (h.tmps n).rn hπ
mutual
theorem Ye (hπ : ∀ n, π (π n) = n) (n : Nat) : ∀ x : SV, (x.kill n).rn π = (x.rn π).kill (π n)
 | .pv x => rfl
 | .vec m cs => rfl
 | .agg l => by simp only [SV.kill, SV.rn, Oo hπ n l]
 | .tup l => by simp only [SV.kill, SV.rn, Oo hπ n l]
 | .p m off => by simp only [SV.kill, SV.rn, (Qd hπ n m)]; split <;> simp only [SV.rn]
 | .ps m off => by simp only [SV.kill, SV.rn, (Qd hπ n m)]; split <;> simp only [SV.rn]
 | .pr m sz i off => by simp only [SV.kill, SV.rn, (Qd hπ n m)]; split <;> simp only [SV.rn]
 | .pi sz es i off => rfl
 | .os m => by simp only [SV.kill, SV.rn, (Qd hπ n m)]; split <;> simp only [SV.rn]
 | .ov m z a b => by simp only [SV.kill, SV.rn, (Qd hπ n m)]; split <;> simp only [SV.rn]
 | .fn f cap => by simp only [SV.kill, SV.rn, Oo hπ n cap]
 | .dead => rfl
theorem Oo (hπ : ∀ n, π (π n) = n) (n : Nat) : ∀ l : List SV, SV.rnL π (SV.killL n l) = SV.killL (π n) (SV.rnL π l)
 | [] => rfl
 | x :: l => by simp only [SV.killL, SV.rnL, Ye hπ n x, Oo hπ n l]
theorem Qd (hπ : ∀ n, π (π n) = n) (n m : Nat) : (π n = π m) = (n = m) := propext ⟨fun h => by have := congrArg π h; simpa only [hπ] using this, fun h => by rw [h]⟩
end
mutual
theorem Ad1 (hπ : ∀ n, π (π n) = n) (n : Nat) (v : PV) : ∀ x : SV, (x.frz n v).rn π = (x.rn π).frz (π n) v
 | .pv x => rfl
 | .vec m cs => rfl
 | .agg l => by simp only [SV.frz, SV.rn, Sb hπ n v l]
 | .tup l => by simp only [SV.frz, SV.rn, Sb hπ n v l]
 | .p m off => rfl
 | .ps m off => rfl
 | .pr m sz i off => rfl
 | .pi sz es i off => rfl
 | .os m => by simp only [SV.frz, SV.rn, (Qd hπ n m)]; split <;> simp only [SV.rn]
 | .ov m z a b => rfl
 | .fn f cap => by simp only [SV.frz, SV.rn, Sb hπ n v cap]
 | .dead => rfl
theorem Sb (hπ : ∀ n, π (π n) = n) (n : Nat) (v : PV) : ∀ l : List SV, SV.rnL π (SV.frzL n v l) = SV.frzL (π n) v (SV.rnL π l)
 | [] => rfl
 | x :: l => by simp only [SV.frzL, SV.rnL, Ad1 hπ n v x, Sb hπ n v l]
end
theorem Aps (hπ : ∀ n, π (π n) = n) (n : Nat) (b : Blk) : (b.kill n).rn π = (b.rn π).kill (π n) := by
 cases b with
 | var x => simp only [Blk.kill, Blk.rn, Ye hπ n x]
 | row sz es => rfl
 | rowc sz es c => rfl
 | it l p => rfl
theorem Au2 (hπ : ∀ n, π (π n) = n) (n : Nat) (v : PV) (b : Blk) : (b.frz n v).rn π = (b.rn π).frz (π n) v := by
 cases b with
 | var x => simp only [Blk.frz, Blk.rn, Ad1 hπ n v x]
 | row sz es => rfl
 | rowc sz es c => rfl
 | it l p => rfl
theorem Avw (hπ : ∀ n, π (π n) = n) (n m : Nat) : (π n = m) = (n = π m) := propext ⟨fun h => by rw [← h, hπ], fun h => by rw [h, hπ]⟩
theorem Ald (hπ : ∀ n, π (π n) = n) (n : Nat) (s : FS) : (s.kill n).rn π = (s.rn π).kill (π n) := by
 refine FS.ext' (fun k => Ye hπ n _) (fun k => ?_);simp only [FS.kill, FS.rn, Option.map_map];cases s.h (π k) with
 | none => rfl
 | some b => simp only [Option.map_some, Function.comp, Aps hπ n b]
theorem Xr (hπ : ∀ n, π (π n) = n) (n : Nat) (b : Option Blk) (s : FS) : (s.seth n b).rn π = (s.rn π).seth (π n) (b.map (Blk.rn π)) := by
 refine FS.ext' (fun k => rfl) (fun k => ?_);simp only [FS.seth, FS.rn, Avw hπ k n];split <;> rfl
theorem Arv (hπ : ∀ n, π (π n) = n) (n : Nat) (v : PV) (s : FS) : (s.frz n v).rn π = (s.rn π).frz (π n) v := by
 refine FS.ext' (fun k => Ad1 hπ n v _) (fun k => ?_);simp only [FS.frz, FS.rn, Avw hπ k n, Option.map_map];split
 · rfl
 · cases s.h (π k) with
   | none => rfl
   | some b => simp only [Option.map_some, Function.comp, Au2 hπ n v b]
theorem Qf (hπ : ∀ n, π (π n) = n) : ∀ (u : List HU) (s : FS), (s.hup u).rn π = (s.rn π).hup (u.map (HU.rn π))
 | [], s => rfl
 | .new n b :: u, s => by simp only [FS.hup, List.map_cons, HU.rn, Qf hπ u, Xr hπ, Ald hπ]; rfl
 | .upd n b :: u, s => by simp only [FS.hup, List.map_cons, HU.rn, Qf hπ u, Xr hπ]; rfl
 | .del n :: u, s => by simp only [FS.hup, List.map_cons, HU.rn, Qf hπ u, Xr hπ]; rfl
 | .frz n v :: u, s => by simp only [FS.hup, List.map_cons, HU.rn, Qf hπ u, Arv hπ]
 | .set t h :: u, s => by simp only [FS.hup, List.map_cons, HU.rn, Qf hπ u]; rfl
mutual
theorem A1b (hπ : ∀ n, π (π n) = n) {k : Nat} : ∀ {x : SV}, k ∈ tn (x.rn π) → π k ∈ tn x
 | .p m o, h => by simp only [SV.rn, tn, List.mem_singleton] at *; rw [h, hπ]
 | .ps m o, h => by simp only [SV.rn, tn, List.mem_singleton] at *; rw [h, hπ]
 | .pr m z i o, h => by simp only [SV.rn, tn, List.mem_singleton] at *; rw [h, hπ]
 | .os m, h => by simp only [SV.rn, tn, List.mem_singleton] at *; rw [h, hπ]
 | .ov m z a b, h => by simp only [SV.rn, tn, List.mem_singleton] at *; rw [h, hπ]
 | .fn f cap, h => by simp only [SV.rn, tn] at *; exact Lz hπ h
 | .pv _, h => by simp [SV.rn, tn] at h
 | .vec _ _, h => by simp [SV.rn, tn] at h
 | .agg l, h => by simp only [SV.rn, tn] at *; exact Lz hπ h
 | .tup l, h => by simp only [SV.rn, tn] at *; exact Lz hπ h
 | .pi _ _ _ _, h => by simp [SV.rn, tn] at h
 | .dead, h => by simp [SV.rn, tn] at h
theorem Lz (hπ : ∀ n, π (π n) = n) {k : Nat} : ∀ {l : List SV}, k ∈ Aw (SV.rnL π l) → π k ∈ Aw l
 | [], h => by simp [SV.rnL, Aw] at h
 | x :: l, h => by
   simp only [SV.rnL, Aw, List.mem_append] at *;exact h.imp (A1b hπ) (Lz hπ)
end
theorem Avj (hπ : ∀ n, π (π n) = n) (F : Fr) (w : World) (ρ : Nat → Value) (s : FS) : vw F w (fun n => ρ (π n)) (s.rn π) = vw F w ρ s := by
 show Ai w _ = Ai w _;congr 1;funext b;refine propext (or_congr_left ⟨?_, ?_⟩)
 · rintro ⟨n, x, h1, h2⟩;obtain ⟨y, h3, _⟩ := Option.map_eq_some_iff.1 h1;exact ⟨π n, y, h3, h2⟩
 · rintro ⟨n, x, h1, h2⟩;exact ⟨π n, x.rn π, by simp only [FS.rn, hπ, h1]; rfl, by simpa only [hπ] using h2⟩
theorem FunOk.rn (hπ : ∀ n, π (π n) = n) {f : Nat} {args : List SV} {h : Nat → Option Blk} {d d' : Nat} {x : SV} {u : List HU} (hf : FunOk P f args h d x u) :
 FunOk P f (SV.rnL π args) (fun n => (h (π n)).map (Blk.rn π)) d' (x.rn π) (u.map (HU.rn π)) := by
 refine ⟨hf.1, fun F N ρ s a w hR hh vs hc => ?_⟩;have hR' := hR.rn hπ;have hc' : ConcL (vw F w (fun n => ρ (π n)) (s.rn π)) (fun n => ρ (π n)) args vs := by
  rw [Avj hπ];have := hc.rn hπ
  rwa [Jp hπ] at this
 refine Calls.mono (hf.2 F N _ _ a w hR' (fun n hn => ?_) vs hc') fun e w' he => ?_
 · have hm : π n ∈ Aw (SV.rnL π args) := by
    have := Lz hπ (k := π n) (l := SV.rnL π args);rw [Jp hπ, hπ] at this;refine Classical.byContradiction fun hno => ?_;have key : ∀ (l : List SV) (k : Nat), k ∈ Aw l → π k ∈ Aw (SV.rnL π l) := fun l k hk => by
     have := Lz hπ (k := π (π k)) (l := SV.rnL π l);rw [Jp hπ, hπ] at this;exact this hk
    exact hno (key args n hn)
   have := hh (π n) hm;simp only [FS.rn];rw [this];simp only [hπ];cases h n with
   | none => rfl
   | some b => simp only [Option.map_some, Agd hπ]
 · obtain ⟨v, ρ', rfl, h1, h2⟩ := he;have h1' := h1.rn hπ;have e : ((s.rn π).hup u).rn π = s.hup (u.map (HU.rn π)) := by
    rw [Qf hπ];congr 1;refine FS.ext' (fun k => Alp hπ _) (fun k => ?_);simp only [FS.rn, hπ, Option.map_map];cases s.h k with
    | none => rfl
    | some b => simp only [Option.map_some, Function.comp, Agd hπ]
   rw [e] at h1';refine ⟨v, _, rfl, h1', ?_⟩;have h2' := h2.rn hπ;have ev := Avj hπ F w' ρ' ((s.rn π).hup u);rw [e] at ev;rw [ev];exact h2'
theorem FunOk.at {f : Nat} {args : List SV} {h h' : Nat → Option Blk} {d : Nat} {x : SV} {u : List HU} (hf : FunOk P f args h d x u) (hh : ∀ n ∈ Aw args, h' n = h n) : FunOk P f args h' d x u :=
 ⟨hf.1, fun F N ρ s a w hR hs vs hc => hf.2 F N ρ s a w hR (fun n hn => (hs n hn).trans (hh n hn)) vs hc⟩
def sw1 (a m : Nat) (k : Nat) : Nat := if k = a then m else if k = m then a else k
theorem Ae5 (a m : Nat) (k : Nat) : sw1 a m (sw1 a m k) = k := by unfold sw1; split <;> (try split) <;> (try split) <;> omega
def Xm (a m b n : Nat) (k : Nat) : Nat := if k = a then m else if k = m then a else if k = b then n else if k = n then b else k
theorem Ae4 {a m b n : Nat} (h1 : a ≠ b) (h2 : a ≠ n) (h3 : m ≠ b) (h4 : m ≠ n) (k : Nat) : Xm a m b n (Xm a m b n k) = k := by unfold Xm; repeat' split <;> (try omega)
end Go.Proofs.Ythmjebkldgdeiaa.Fw
namespace Go.Proofs.Ythmjebkldgdeiaa.Fw
open Go.RowKit
abbrev iM (d n : Nat) : I := ⟨.mv, [.t n], some d, none⟩
abbrev iJ (k : Kd) (x : List Opd) (d : Nat) : I := ⟨k, x, some d, none⟩
abbrev iO (k : Kd) (x : List Opd) : I := ⟨k, x, none, none⟩
abbrev iG (k : Kd) (x : List Opd) (d g : Nat) (w : Bool) : I := ⟨k, x, some d, some (g, w)⟩
abbrev cI (n : Int) : Opd := .c (.pv (.i .i64 n))
section
variable (E : Env)
def Uv (D ps : List Nat) (c j : Nat) (d : Option Nat) (T : List Nat) (acc : List (Nat × List Nat)) (l : List (I × Nat × List Nat × List Nat × Nat)) (Q : Cc) (s : FS) : KK :=
 fun x u => okP D c (d.getD 1000000000) x u T ∧ Xs acc ps T ∧ sxP E l (Abv c j T acc) Q (s.apply d x u)
def gdP (D ps : List Nat) (c j : Nat) (k : Kd) (x : List Opd) (d : Nat) (T : List Nat) (acc : List (Nat × List Nat)) (l : List (I × Nat × List Nat × List Nat × Nat)) (Q : Cc) (s : FS) : Prop := body E k x d s (Uv E D ps c j (some d) T acc l Q s)
def skP (D ps : List Nat) (c j : Nat) (d : Nat) (T : List Nat) (acc : List (Nat × List Nat)) (l : List (I × Nat × List Nat × List Nat × Nat)) (Q : Cc) (s : FS) : Prop := Uv E D ps c j (some d) T acc l Q s (.tup []) []
theorem Ara (D l Q s) : sx E (.anyP D l) Q s = Ap7 E.reg D l Q s := (rfl)
theorem Aph (D ps c j d T acc l Q s x u) : Uv E D ps c j d T acc l Q s x u = (okP D c (d.getD 1000000000) x u T ∧ Xs acc ps T ∧ sxP E l (Abv c j T acc) Q (s.apply d x u)) := (rfl)
theorem Arb (acc Q s) : sxP E [] acc Q s = Q .normal s := (rfl)
theorem Akm (k x d c D ps j l acc Q s) : sxP E ((⟨k, x, some d, none⟩, c, D, ps, j) :: l) acc Q s = body E k x d s (Uv E D ps c j (some d) (d :: Ix (Bh s x)) acc l Q s) := (rfl)
theorem Agn (k x c D ps j l acc Q s) : sxP E ((⟨k, x, none, none⟩, c, D, ps, j) :: l) acc Q s = body E k x 0 s (Uv E D ps c j none (Ix (Bh s x)) acc l Q s) := (rfl)
theorem D4 (D ps c j k x d T acc l Q s) : gdP E D ps c j k x d T acc l Q s = body E k x d s (Uv E D ps c j (some d) T acc l Q s) := (rfl)
theorem D3 (D ps c j d T acc l Q s) : skP E D ps c j d T acc l Q s = Uv E D ps c j (some d) T acc l Q s (.tup []) [] := (rfl)
variable {E}
theorem U7 {D l Q s} (h : sxP E l [] Q (killD D s)) : Ap7 E D l Q s := ⟨s, .refl s, h⟩
end
theorem A1v (D d x u T) : okP D 0 d x u T = (noD d x D ∧ u = []) := (rfl)
theorem A1u (D d x u T) : okP D 1 d x u T = (noD d x D ∧ G0 D d u) := (rfl)
theorem A1t (D d x u T) : okP D 2 d x u T = (noD d x D ∧ Dh D d u ∧ Es T u) := (rfl)
theorem Ab9 (T) : Es T [] = True := (rfl)
theorem Aca (T n b u) : Es T (.new n b :: u) = (inT n T ∧ Es T u) := (rfl)
theorem Ab8 (T n b u) : Es T (.upd n b :: u) = (inT n T ∧ Es T u) := (rfl)
theorem Acb (T n u) : Es T (.del n :: u) = (inT n T ∧ Es T u) := (rfl)
theorem Anv (n m T) : inT n (m :: T) = if n = m then True else inT n T := (rfl)
theorem Aly (n) : Z4 n [] = True := (rfl)
theorem Ahf (n m T) : Z4 n (m :: T) = if n = m then False else Z4 n T := (rfl)
theorem Ai8 (T) : Ra [] T = True := (rfl)
theorem Ad8 (n S T) : Ra (n :: S) T = (Z4 n T ∧ Ra S T) := (rfl)
theorem All (acc T) : Xs acc [] T = True := (rfl)
theorem Ag7 (acc k ps T) : Xs acc (k :: ps) T = (Ra (lk [] k acc) T ∧ Xs acc ps T) := (rfl)
theorem A0q (k T acc) : Abv 0 k T acc = acc := (rfl)
theorem A0p (k T acc) : Abv 1 k T acc = (k, T) :: acc := (rfl)
theorem A0o (k T acc) : Abv 2 k T acc = (k, T) :: acc := (rfl)
theorem Agm : Ix [] = [] := (rfl)
theorem Acd (x l) : Ix (x :: l) = tnP x ++ Ix l := (rfl)
theorem A1d (n o) : tnP (.p n o) = [n] := (rfl)
theorem Av9 (n z i o) : tnP (.pr n z i o) = [n] := (rfl)
theorem Awb (n) : tnP (.os n) = [n] := (rfl)
theorem Av8 (x) : tnP (.pv x) = [] := (rfl)
theorem Aq2 (n x) : tnP (.vec n x) = [] := (rfl)
theorem Awa (a b c d) : tnP (.pi a b c d) = [] := (rfl)
attribute [go_sem] Ara Aph Arb Akm Agn A1v A1u A1t Ab9 Aca Ab8 Acb Anv Aly Ahf Ai8 Ad8 All Ag7 A0q A0p A0o Agm Acd A1d Av9 Awb Av8 Aq2 Awa
abbrev iU (k : Kd) (n d : Nat) : I := ⟨k, [.t n], some d, none⟩
abbrev iD (k : Kd) (m n d : Nat) : I := ⟨k, [.t m, .t n], some d, none⟩
abbrev iV (k : Kd) (n d g : Nat) (w : Bool) : I := ⟨k, [.t n], some d, some (g, w)⟩
abbrev L1 : Kd := .ld 1 false
abbrev L2 : Kd := .ld 2 true
abbrev L8 : Kd := .ld 8 true
abbrev B1 : Kd := .bin .eql
abbrev B2 : Kd := .bin .add
abbrev B3 : Kd := .bin .lss
abbrev B4 : Kd := .bin .gtr
abbrev B5 : Kd := .bin .sub
abbrev B6 : Kd := .bin .neq
abbrev B7 : Kd := .bin .leq
abbrev B8 : Kd := .bin .geq
abbrev U1 : Kd := .un .not
abbrev S1 : Kd := .sto 1
abbrev zV : SV := .vec 8 (List.replicate 8 (.i .u32 0))
abbrev zW : SV := .vec 8 (List.replicate 8 (.i .i64 0))
abbrev zX : SV := .vec 8 (List.replicate 8 (.b false))
abbrev zN : SV := .pv (.sl true 0 [])
abbrev zI : SV := .pv (.i .i64 0)
abbrev zU : SV := .pv (.i .u32 0)
abbrev zF : SV := .pv (.b false)
abbrev zS : SV := .pv (.s [])
abbrev zT : SV := .pv (.b true)
abbrev jP (a b d : Nat) : I := ⟨.pick, [.t a, .c zT, .t b], some d, none⟩
abbrev jQ (a b d : Nat) : I := ⟨.pick, [.t a, .t b, .c zF], some d, none⟩
abbrev jC (n : Int) (d : Nat) : I := ⟨.mv, [cI n], some d, none⟩
abbrev jW (z a b : Nat) : I := ⟨.sto z, [.t a, .t b], none, none⟩
abbrev jF (o n d : Nat) : I := ⟨.fa o, [.t n], some d, none⟩
abbrev jK (k : Kd) (a : Nat) (n : Int) (d : Nat) : I := ⟨k, [.t a, cI n], some d, none⟩
abbrev jA (k : Kd) (n d g : Nat) : I := ⟨k, [.t n], some d, some (g, true)⟩
abbrev jB (k : Kd) (n d g : Nat) : I := ⟨k, [.t n], some d, some (g, false)⟩
abbrev jE (d : Nat) : I := ⟨.new (.agg [zI, zU, zV, zI, zI, zU, zI, zU, zS, zN, zN, zI, zS, zI]), [], some d, none⟩
abbrev jL (o n d g : Nat) : I := ⟨.fa o, [.t n], some d, some (g, true)⟩
abbrev jN (o n d g : Nat) : I := ⟨.fa o, [.t n], some d, some (g, false)⟩
abbrev jS (l : List I) (c : C) : C := .seq (.ops l) c
abbrev jI (n : Nat) (a : C) : C := .ite (.t n) a .skip
attribute [go_sem] L1 L2 L8 B1 B2 B3 B4 B5 B6 B7 B8 U1 S1 zV zW zX zN zI zU zF zS zT
end Go.Proofs.Ythmjebkldgdeiaa.Fw
namespace Go.Proofs.Ythmjebkldgdeiaa.Fw
open Go.RowKit
variable {P : Program} {F : Fr} {N : Nat} {ρ ρ' : Nat → Value} {s : FS} {a : Act} {w w' : World} {V V' : View}
def Blk.ptr (n : Nat) : Blk → SV
 | .var _ => .p n 0
 | .row _ _ => .os n
 | _ => .dead
def Blk.plain : Blk → Bool
 | .var x => x.closed
 | .row _ _ => true
 | _ => false
theorem Own.closed {n m : Nat} {blk : Blk} (hb : blk.plain = true) (hV : V.le V') (he : ρ n = ρ' m) (h : Own w V ρ' m blk) : Own w V' ρ n blk := by
 cases blk with
 | var x =>
   obtain ⟨b, vs, ty, fr, u, g1, g2, g3, g4, g5, g6, g7⟩ := h;exact ⟨b, vs, ty, fr, u, he.trans g1, g2, g3, Bf hV hb g4, g5, g6, g7⟩
 | row sz es =>
   obtain ⟨base, cap, g1, g2, g3, g4, g5⟩ := h;refine ⟨base, cap, he.trans g1, g2, g3, g4, fun hc => ?_⟩;obtain ⟨b, vs, ty, fr, k1, k2, k3, k4, k5, k6⟩ := g5 hc;exact ⟨b, vs, ty, fr, k1, k2, k3, k4, k5, fun i c hi => (k6 i c hi).mono hV⟩
 | rowc sz es c => cases hb
 | it l p => cases hb
theorem Afj {n : Nat} {blk : Blk} (hb : (blk.ptr n).kill n ≠ blk.ptr n) (h : Own w V ρ n blk) : Conc V ρ (blk.ptr n) (ρ n) := by
 cases blk with
 | var x =>
   obtain ⟨b, vs, ty, fr, u, g1, _⟩ := h;simp only [Blk.ptr, Conc];exact ⟨b, g1, g1⟩
 | row sz es =>
   obtain ⟨base, cap, g1, _⟩ := h;simp only [Blk.ptr, Conc];exact ⟨trivial, by rw [g1]; trivial⟩
 | rowc sz es c => simp only [Blk.ptr, SV.kill] at hb; exact absurd rfl hb
 | it l p => simp only [Blk.ptr, SV.kill] at hb; exact absurd rfl hb
theorem Alw {n m : Nat} {b b' : Blk} {v : Value} (hp : b'.ptr m = b.ptr m) (hb : (b.ptr n).kill n ≠ b.ptr n) (h : Conc V ρ (b.ptr n) v) (h' : Conc V' ρ' (b'.ptr m) v) : ρ n = ρ' m := by
 rw [hp] at h';cases b with
 | var x =>
   simp only [Blk.ptr, Conc] at h h';obtain ⟨p, e1, e2⟩ := h;obtain ⟨q, e3, e4⟩ := h';rw [e1, e3, ← e2, ← e4]
 | row sz es =>
   simp only [Blk.ptr, Conc] at h h';rw [← h.1, ← h'.1]
 | rowc sz es c => simp only [Blk.ptr, SV.kill] at hb; exact absurd rfl hb
 | it l p => simp only [Blk.ptr, SV.kill] at hb; exact absurd rfl hb
theorem Ib (hm : P.follows .mixedOrders = true) {f N' : Nat} {rs : List Rv} {c : C} (hf : A7 P f = some (N', rs, c)) {args : List SV} {h : Nat → Option Blk} {d g : Nat} {blk blk' : Blk} {x : SV} (hlen : args.length ≤ N')
 (hts : ∀ n ∈ Aw args, n = g) (hgt : g ∈ Aw args) (hg : h g = some blk) (hx : x.closed = true) (hp : (blk.ptr g).kill g ≠ blk.ptr g) (hb' : blk'.plain = true) (hpp : ∀ m, blk'.ptr m = blk.ptr m)
 (hrun : ∀ F, sx (Rt P F N') c (Y8 rs fun y s => y = x ∧ ∃ m, s.t 1000000 = blk'.ptr m ∧ s.h m = some blk') (mk (Ca 0 args ++ [(1000000, blk.ptr g)]) [(g, some blk)])) :
 FunOk P f args h d x [.upd g blk'] := by
 refine ⟨Bs hf, fun F N ρ s a w hR hh vs hc => ?_⟩;have hsg : s.h g = some blk := (hh g hgt).trans hg;have hvl : vs.length = args.length := by
  clear hrun hlen hts hh hgt
  induction args generalizing vs with
  | nil => simp only [ConcL] at hc; subst hc; rfl
  | cons x l ih =>
    simp only [ConcL] at hc;obtain ⟨v, us, rfl, _, h⟩ := hc;simp [ih _ h]
 let F' : Fr := ⟨w, Mn ρ s.h [g], F.out ρ (A1 s [g]).h, fun _ => ρ g, []⟩
 have hmine : ∀ b, Mn ρ s.h [g] b ↔ Bm (ρ g) = some b := fun b => by
  constructor
  · rintro ⟨n, hn, x, h1, h2⟩;simp only [List.mem_singleton] at hn; subst hn; exact h2
  · intro hb; exact ⟨g, List.mem_singleton.2 rfl, blk, hsg, hb⟩
 have hlk : ∀ n, lk none n [(g, some blk)] = if n = g then some blk else none := fun n => by simp only [lk]
 have how : ∀ b, Bo ρ (mk (Ca 0 args ++ [(1000000, blk.ptr g)]) [(g, some blk)]).h b ↔ Mn ρ s.h [g] b := fun b => by
  rw [hmine];constructor
  · rintro ⟨n, x, h1, h2⟩;simp only [mk, hlk] at h1;split at h1
    · rename_i e; subst e; exact h2
    · cases h1
  · intro hb; exact ⟨g, blk, by simp [mk, lk], hb⟩
 have hoth : ∀ b, Bo ρ (A1 s [g]).h b ↔ ∃ n, n ≠ g ∧ ∃ x, s.h n = some x ∧ Bm (ρ n) = some b := fun b => by
  constructor
  · rintro ⟨n, x, h1, h2⟩;simp only [A1, List.mem_singleton] at h1; split at h1
    · cases h1
    · rename_i hn; exact ⟨n, hn, x, h1, h2⟩
  · rintro ⟨n, hn, x, h1, h2⟩;exact ⟨n, x, by simp only [A1, List.mem_singleton, if_neg hn]; exact h1, h2⟩
 have hview : Ai w (F'.out ρ (mk (Ca 0 args ++ [(1000000, blk.ptr g)]) [(g, some blk)]).h) = vw F w ρ s := by
  show Ai w _ = Ai w _;congr 1;funext b;refine propext ⟨fun hb => ?_, fun hb => ?_⟩
  · rcases hb with hb | hb
    · obtain ⟨n, _, x, h1, h2⟩ := (how b).1 hb; exact .inl ⟨n, x, h1, h2⟩
    · rcases hb with hb | hb
      · obtain ⟨n, _, x, h1, h2⟩ := (hoth b).1 hb; exact .inl ⟨n, x, h1, h2⟩
      · exact .inr hb
  · rcases hb with ⟨n, x, h1, h2⟩ | hb
    · by_cases hn : n = g
      · subst hn; exact .inl ((how b).2 ((hmine b).2 h2))
      · exact .inr (.inl ((hoth b).2 ⟨n, hn, x, h1, h2⟩))
    · exact .inr (.inr hb)
 have hgl : ∀ (k : Nat) (l : List SV) (n : Nat) (t : List (Nat × SV)), (∀ i, k ≤ i → i < k + l.length → i ≠ n) → lk .dead n (Ca k l ++ t) = lk .dead n t := by
  intro k l
  induction l generalizing k with
  | nil => intro n t _; rfl
  | cons y l ih =>
    intro n t hn;simp only [Ca, List.cons_append, lk];rw [if_neg fun e => hn k (Nat.le_refl k) (by simp) e.symm];exact ih (k + 1) n t fun i h1 h2 => hn i (by omega) (by simp only [List.length_cons]; omega)
 have hap : ∀ (k : Nat) (l : List SV) (n : Nat) (t : List (Nat × SV)), k ≤ n → n < k + l.length → lk .dead n (Ca k l ++ t) = lk .dead n (Ca k l) := by
  intro k l
  induction l generalizing k with
  | nil => intro n t h1 h2; simp at h2; omega
  | cons y l ih =>
    intro n t h1 h2;simp only [Ca, List.cons_append, lk];split
    · rfl
    · exact ih (k + 1) n t (by omega) (by simp only [List.length_cons] at h2; omega)
 have hN := Me hf;have hR0 : RelR F' N' ρ (mk (Ca 0 args ++ [(1000000, blk.ptr g)]) [(g, some blk)]) { tmps := (⟨vs⟩ : Array Value) ++ Array.replicate (N' - (⟨vs⟩ : Array Value).size) undef, defers := [] } w := by
  refine ⟨⟨rfl, rfl, rfl, Nat.le_refl _, fun _ _ _ => rfl, fun b hb => ⟨?_, fun hmi => ?_⟩⟩, fun b hb => .inr ((how b).1 hb), fun n x hx => ?_, fun n m x y b hx hy hbx hby => ?_, fun n => ?_, by simp; omega, rfl⟩
  · rcases hb with hb | hb
    · obtain ⟨n, _, x, h1, h2⟩ := (hoth b).1 hb; exact (hR.own n x h1).lt h2
    · exact Nat.lt_of_lt_of_le (hR.fr.hid b hb).1 hR.fr.size
  · have hmb := (hmine b).1 hmi;rcases hb with hb | hb
    · obtain ⟨m, hm, y, g1, g2⟩ := (hoth b).1 hb;exact hm (hR.inj m g y blk b g1 hsg g2 hmb)
    · exact hR.shown ⟨g, blk, hsg, hmb⟩ hb
  · rw [hview];simp only [mk, hlk] at hx; split at hx
    · rename_i e; subst e; cases hx; exact hR.own _ _ hsg
    · cases hx
  · simp only [mk, hlk] at hx hy;split at hx
    · split at hy
      · rename_i e1 e2; rw [e1, e2]
      · cases hy
    · cases hx
  · rw [hview];simp only [mk];unfold Fr.val;by_cases hb : n < Gj
    · rw [if_pos hb];have he : ((⟨vs⟩ : Array Value) ++ Array.replicate (N' - (⟨vs⟩ : Array Value).size) undef).getD n undef = (vs[n]?).getD undef := by
       rw [Array.getD_eq_getD_getElem?];by_cases hn : n < vs.length
       · rw [Array.getElem?_append_left (by simpa using hn)]; simp
       · rw [Array.getElem?_append_right (by simpa using hn)];rw [List.getElem?_eq_none (by omega)];simp only [Array.getElem?_replicate, Option.getD_none];split <;> rfl
      rw [he];have := Fc 0 n hc;simp only [Nat.zero_le, if_true, Nat.sub_zero] at this;by_cases hn : n < args.length
      · rw [hap 0 args n _ (Nat.zero_le n) (by omega)]; exact this
      · rw [hgl 0 args n _ fun i h1 h2 => by omega];have : n ≠ 1000000 := fun e => by rw [e] at hb; exact Nat.lt_irrefl _ hb
        simp only [lk, if_neg this, Conc]
    · rw [if_neg hb, hgl 0 args n _ fun i h1 h2 => by omega];simp only [lk];split
      · exact Afj hp (hR.own g blk hsg)
      · simp only [Conc]
 refine Calls.mono (Ht hm hf rfl hR0.fr (fun b hb => by
  obtain ⟨n, hn, x, h1, h2⟩ := hb;exact (hR.own n x h1).lt h2) hR0 M5 (hrun F')) fun e w' he => ?_
 obtain ⟨v, ρ', s', a', y, rfl, hR', hy, hyx, m, ht, hm'⟩ := he;subst hyx;have hadr : ρ g = ρ' m := by
  have h1 := hR'.tmps 1000000;rw [ht] at h1;have e : F'.val a' 1000000 = ρ g := by
   unfold Fr.val;rw [if_neg (show ¬ (1000000 : Nat) < Gj from Nat.lt_irrefl _)]
  rw [e] at h1;exact Alw (hpp m) hp (Afj hp (hR.own g blk hsg)) h1
 have hout2 : ∀ b, F.out ρ (s.hup [.upd g blk']).h b → F'.out ρ' s'.h b := fun b hb => by
  rcases hb with ⟨n, z, h1, h2⟩ | hb
  · by_cases hn : n = g
    · subst hn;exact .inl ⟨m, blk', hm', by rw [← hadr]; exact h2⟩
    · have h1' : s.h n = some z := by simpa [FS.hup, FS.seth, hn] using h1
      exact .inr (.inl ((hoth b).2 ⟨n, hn, z, h1', h2⟩))
  · exact .inr (.inr hb)
 have hV2 : (Ai w' (F'.out ρ' s'.h)).le (Ai w' (F.out ρ (s.hup [.upd g blk']).h)) := A4 fun b c ho hc => ⟨fun hb => ho (hout2 b hb), hc⟩
 have hout1 : ∀ b, F.out ρ (s.hup [.upd g blk']).h b ↔ F.out ρ s.h b := fun b => by
  refine or_congr_left ⟨?_, ?_⟩
  · rintro ⟨n, z, h1, h2⟩;by_cases hn : n = g
    · subst hn; exact ⟨n, blk, hsg, h2⟩
    · exact ⟨n, z, by simpa [FS.hup, FS.seth, hn] using h1, h2⟩
  · rintro ⟨n, z, h1, h2⟩;by_cases hn : n = g
    · subst hn; exact ⟨n, blk', by simp [FS.hup, FS.seth], h2⟩
    · exact ⟨n, z, by simpa [FS.hup, FS.seth, hn] using h1, h2⟩
 have hkeep : ∀ b, b < w.heap.size → Bm (ρ g) ≠ some b → w'.heap[b]? = w.heap[b]? := fun b hb hn => hR'.fr.block b hb fun hmi => hn ((hmine b).1 hmi);have hV1 : (vw F w ρ s).le (Ai w' (F.out ρ (s.hup [.upd g blk']).h)) := A4 fun b c ho hc => by
  refine ⟨fun hb => ho ((hout1 b).1 hb), ?_⟩;have hlt : b < w.heap.size := by
   unfold Dr at hc;cases hx : w.heap[b]? with
   | none => rw [hx] at hc; cases hc
   | some o => exact (Array.getElem?_eq_some_iff.1 hx).1
  rw [Cj (hkeep b hlt fun e => ho (.inl ⟨g, blk, hsg, e⟩))];exact hc
 refine ⟨v, ρ, rfl, ⟨⟨hR'.fr.os.trans hR.fr.os, hR'.fr.tape.trans hR.fr.tape, hR'.fr.output.trans hR.fr.output, Nat.le_trans hR.fr.size hR'.fr.size, fun b hlt hM => ?_, hR.fr.hid⟩, fun b hb => ?_, fun n z hz => ?_, fun n k z z' b hn hk hbn hbk => ?_, fun n => (hR.tmps n).mono hV1, hR.size, hR.defers⟩, Bf hV2 hx hy⟩
 · rw [hkeep b (Nat.lt_of_lt_of_le hlt hR.fr.size) fun e => ?_]
   · exact hR.fr.block b hlt hM
   · rcases hR.may b ⟨g, blk, hsg, e⟩ with h1 | h1
     · omega
     · exact hM h1
 · obtain ⟨n, z, h1, h2⟩ := hb;by_cases hn : n = g
   · subst hn; exact hR.may b ⟨n, blk, hsg, h2⟩
   · exact hR.may b ⟨n, z, by simpa [FS.hup, FS.seth, hn] using h1, h2⟩
 · by_cases hn : n = g
   · subst hn;have e : z = blk' := by simpa [FS.hup, FS.seth] using hz.symm
     subst e;exact Own.closed hb' hV2 hadr (hR'.own m _ hm')
   · have h1 : s.h n = some z := by simpa [FS.hup, FS.seth, hn] using hz
     refine (hR.own n z h1).congr hV1 fun b hb => hkeep b ((hR.own n z h1).lt hb) fun e => hn (hR.inj n g z blk b h1 hsg hb e)
 · have f : ∀ (q : Nat) (y : Blk), (s.hup [.upd g blk']).h q = some y → ∃ y', s.h q = some y' := fun q y hq => by
    by_cases e : q = g
    · subst e; exact ⟨blk, hsg⟩
    · exact ⟨y, by simpa [FS.hup, FS.seth, e] using hq⟩
   obtain ⟨z1, e1⟩ := f n z hn;obtain ⟨z2, e2⟩ := f k z' hk;exact hR.inj n k z1 z2 b e1 e2 hbn hbk
end Go.Proofs.Ythmjebkldgdeiaa.Fw
namespace Go.Proofs.Ythmjebkldgdeiaa.Fw
open Go.RowKit
variable {P : Program}
end Go.Proofs.Ythmjebkldgdeiaa.Fw
namespace Go.Proofs.Ythmjebkldgdeiaa.Fw
open Go.RowKit
variable {P : Program} {F : Fr} {N : Nat} {ρ ρ' : Nat → Value} {s : FS} {a : Act} {w w' : World} {V V' : View}
theorem FunOk.lend {f : Nat} {args : List SV} {h h' : Nat → Option Blk} {d d' : Nat} {x : SV} {n sz : Nat} {es : List (List PV)} (hn : h n = some (.row sz es)) (hin : n ∈ Aw args)
 (hc : Aw (SV.frzL n (.sl false sz es) args) = []) (hx : x.scalar = true) (hf : FunOk P f (SV.frzL n (.sl false sz es) args) h' d' x []) : FunOk P f args h d x [] := by
 refine ⟨hf.1, fun F N ρ s a w hR hh vs hv => ?_⟩;have hs := (hh n hin).trans hn
 let F2 : Fr := ⟨w, fun _ => False, F.out ρ (A1 s [n]).h, fun _ => undef, []⟩
 have hRb := hR.weak (Nt s [n]);have hR2 : RelR F2 0 ρ ⟨fun _ => .dead, fun _ => none⟩ ⟨#[], []⟩ w :=
  ⟨⟨rfl, rfl, rfl, Nat.le_refl _, fun _ _ _ => rfl, fun b hb => ⟨by
   rcases hb with hb | hb
   · exact hRb.lt hb
   · exact Nat.lt_of_lt_of_le (hR.fr.hid b hb).1 hR.fr.size, id⟩⟩, fun b ⟨n, x, h, _⟩ => by simp at h, fun n x h => by simp at h, fun n m x y b h => by simp at h, fun n => by simp only [Conc], rfl, rfl⟩
 have hV : (vw F w ρ s).le (vw F2 w ρ ⟨fun _ => .dead, fun _ => none⟩) := A4 fun b c ho hc => ⟨fun hb => by
  rcases hb with ⟨n, x, h, _⟩ | hb
  · simp at h
  · rcases hb with ⟨k, x, h1, h2⟩ | hb
    · simp only [A1] at h1;split at h1
      · cases h1
      · exact ho (.inl ⟨k, x, h1, h2⟩)
    · exact ho (.inr hb), hc⟩
 have hp : PConc (vw F2 w ρ ⟨fun _ => .dead, fun _ => none⟩) (.sl false sz es) (ρ n) := (Jo hR hs).mono (A4 fun b c ho hc => ⟨fun hb => by
  rcases hb with ⟨n, x, h, _⟩ | hb
  · simp at h
  · rcases hb with ⟨k, x, h1, h2⟩ | hb
    · simp only [A1, List.mem_singleton] at h1;split at h1
      · cases h1
      · rename_i hk;exact ho (.inl ⟨k, x, by simp only [FS.seth, if_neg hk]; exact h1, h2⟩)
    · exact ho (.inr hb), hc⟩)
 refine Calls.mono (hf.2 F2 0 ρ _ _ w hR2 (by rw [hc]; simp) vs (ConcL.frz hV hp hv)) fun e w' he => ?_;obtain ⟨v, ρ', rfl, hR', hy⟩ := he;exact ⟨v, ρ, rfl, hR.grew ⟨hR'.fr.os, hR'.fr.tape, hR'.fr.output, hR'.fr.size, fun b hb => hR'.fr.block b hb id⟩, H4 hx hy⟩
mutual
theorem Conc.agree (hV : V.le V') : ∀ {x : SV} {v : Value}, (∀ n ∈ tn x, ρ' n = ρ n) → Conc V ρ x v → Conc V' ρ' x v
 | .pv x, v, _, h => by simp only [Conc] at *; exact h.mono hV
 | .vec n cs, v, _, h => by simp only [Conc] at *; obtain ⟨vs, a, b, c⟩ := h; exact ⟨vs, a, b, c.mono hV⟩
 | .agg l, v, hc, h => by simp only [Conc, tn] at *; obtain ⟨vs, a, b⟩ := h; exact ⟨vs, a, Cells.agree hV hc b⟩
 | .tup l, v, hc, h => by simp only [Conc, tn] at *; obtain ⟨vs, a, b⟩ := h; exact ⟨vs, a, ConcL.agree hV hc b⟩
 | .p n off, v, hc, h => by simp only [Conc, tn, List.mem_singleton, forall_eq] at *; rw [hc]; exact h
 | .ps n off, v, hc, h => by simp only [Conc, tn, List.mem_singleton, forall_eq] at *; rw [hc]; exact h
 | .pr n sz i off, v, hc, h => by simp only [Conc, tn, List.mem_singleton, forall_eq] at *; rw [hc]; exact h
 | .pi sz es i off, v, _, h => by
   simp only [Conc] at *;obtain ⟨b, o, arr, h1, h2, h3⟩ := h;exact ⟨b, o, arr, h1, hV _ _ h2, fun c hc => ⟨(h3 c hc).1, (h3 c hc).2.mono hV⟩⟩
 | .os n, v, hc, h => by simp only [Conc, tn, List.mem_singleton, forall_eq] at *; rw [hc]; exact h
 | .ov n sz lo hi, v, hc, h => by simp only [Conc, tn, List.mem_singleton, forall_eq] at *; rw [hc]; exact h
 | .fn f cap, v, hc, h => by simp only [Conc, tn] at *; obtain ⟨vs, a, b⟩ := h; exact ⟨vs, a, ConcL.agree hV hc b⟩
 | .dead, v, _, h => by simp only [Conc]
theorem ConcL.agree (hV : V.le V') : ∀ {l : List SV} {vs : List Value}, (∀ n ∈ Aw l, ρ' n = ρ n) → ConcL V ρ l vs → ConcL V' ρ' l vs
 | [], vs, _, h => by simp only [ConcL] at *; exact h
 | x :: l, vs, hc, h => by
   simp only [ConcL, Aw, List.mem_append] at *;obtain ⟨u, us, a, b, c⟩ := h;exact ⟨u, us, a, Conc.agree hV (fun n hn => hc n (.inl hn)) b, ConcL.agree hV (fun n hn => hc n (.inr hn)) c⟩
theorem Cells.agree (hV : V.le V') : ∀ {l : List SV} {vs : List Value}, (∀ n ∈ Aw l, ρ' n = ρ n) → Cells V ρ l vs → Cells V' ρ' l vs
 | [], vs, _, h => by simp only [Cells] at *; exact h
 | x :: l, vs, hc, h => by
   simp only [Cells, Aw, List.mem_append] at *;obtain ⟨u, us, a, b, c, d, e⟩ := h;exact ⟨u, us, a, Conc.agree hV (fun n hn => hc n (.inl hn)) b, c, d, Cells.agree hV (fun n hn => hc n (.inr hn)) e⟩
end
theorem Qm (t : List (Nat × SV)) (n : Nat) : ∀ (k : Nat) (l : List SV), (∀ i, k ≤ i → i < k + l.length → i ≠ n) → lk .dead n (Ca k l ++ t) = lk .dead n t
 | _, [], _ => rfl
 | k, y :: l, hn => by
   simp only [Ca, List.cons_append, lk];rw [if_neg fun e => hn k (Nat.le_refl k) (by simp) e.symm];exact Qm t n (k + 1) l fun i h1 h2 => hn i (by omega) (by simp only [List.length_cons]; omega)
theorem W6 (t : List (Nat × SV)) (n : Nat) : ∀ (k : Nat) (l : List SV), k ≤ n → n < k + l.length → lk .dead n (Ca k l ++ t) = lk .dead n (Ca k l)
 | k, [], h1, h2 => by simp at h2; omega
 | k, y :: l, h1, h2 => by
   simp only [Ca, List.cons_append, lk];split
   · rfl
   · exact W6 t n (k + 1) l (by omega) (by simp only [List.length_cons] at h2; omega)
theorem Df (hm : P.follows .mixedOrders = true) {f N' : Nat} {rs : List Rv} {c : C} (hf : A7 P f = some (N', rs, c)) {args : List SV} {h : Nat → Option Blk} {d g m sz : Nat} {es es' : List (List PV)} {X X' x : SV} (hlen : args.length ≤ N')
 (hg : h g = some (.var X)) (hmm : h m = some (.row sz es)) (hgm : g ≠ m) (hx : x.closed = true) (hX : ∀ n ∈ tn X', n = g ∨ n = m)
 (hrun : ∀ F, sx (Rt P F N') c (Y8 rs fun y s => y = x ∧ s.t 1000000 = .p g 0 ∧ s.h g = some (.var X') ∧ s.h m = some (.row sz es')) (mk (Ca 0 args ++ [(1000000, .p g 0)]) [(g, some (.var X)), (m, some (.row sz es))])) :
 DeepOk P f args h d x [.new m (.row sz es'), .upd g (.var X')] := by
 refine ⟨Bs hf, fun F N ρ s a w hR hh vs hc => ?_⟩;have hsg : s.h g = some (.var X) := by rw [hh]; exact hg
 have hsm : s.h m = some (.row sz es) := by rw [hh]; exact hmm
 have hvl := Jc hc
 let H : List (Nat × Option Blk) := [(g, some (.var X)), (m, some (.row sz es))]
 let F' : Fr := ⟨w, Mn ρ s.h [g, m], F.out ρ (A1 s [g, m]).h, fun _ => ρ g, []⟩
 have hmine : ∀ b, Mn ρ s.h [g, m] b ↔ Bm (ρ g) = some b ∨ Bm (ρ m) = some b := fun b => by
  constructor
  · rintro ⟨n, hn, x, h1, h2⟩;simp only [List.mem_cons, List.not_mem_nil, or_false] at hn;rcases hn with rfl | rfl
    · exact .inl h2
    · exact .inr h2
  · rintro (hb | hb)
    · exact ⟨g, by simp, _, hsg, hb⟩
    · exact ⟨m, by simp, _, hsm, hb⟩
 have hlk : ∀ n z, lk none n H = some z ↔ (n = g ∧ z = .var X) ∨ (n = m ∧ z = .row sz es) := fun n z => by
  simp only [H, lk];by_cases e1 : n = g
  · subst e1; rw [if_pos rfl];constructor
    · intro e; cases e; exact .inl ⟨rfl, rfl⟩
    · rintro (⟨_, e⟩ | ⟨e, _⟩)
      · rw [e]
      · exact absurd e hgm
  · rw [if_neg e1];by_cases e2 : n = m
    · subst e2; rw [if_pos rfl];constructor
      · intro e; cases e; exact .inr ⟨rfl, rfl⟩
      · rintro (⟨e, _⟩ | ⟨_, e⟩)
        · exact absurd e e1
        · rw [e]
    · rw [if_neg e2];constructor
      · intro e; cases e
      · rintro (⟨e, _⟩ | ⟨e, _⟩)
        · exact absurd e e1
        · exact absurd e e2
 have hin : ∀ n z, lk none n H = some z → s.h n = some z := fun n z hz => by
  rcases (hlk n z).1 hz with ⟨rfl, rfl⟩ | ⟨rfl, rfl⟩
  · exact hsg
  · exact hsm
 have how : ∀ b, Bo ρ (mk (Ca 0 args ++ [(1000000, .p g 0)]) H).h b ↔ Mn ρ s.h [g, m] b := fun b => by
  rw [hmine];constructor
  · rintro ⟨n, z, h1, h2⟩;rcases (hlk n z).1 h1 with ⟨rfl, _⟩ | ⟨rfl, _⟩
    · exact .inl h2
    · exact .inr h2
  · rintro (hb | hb)
    · exact ⟨g, _, (hlk g _).2 (.inl ⟨rfl, rfl⟩), hb⟩
    · exact ⟨m, _, (hlk m _).2 (.inr ⟨rfl, rfl⟩), hb⟩
 have hoth : ∀ b, Bo ρ (A1 s [g, m]).h b ↔ ∃ n, n ≠ g ∧ n ≠ m ∧ ∃ x, s.h n = some x ∧ Bm (ρ n) = some b := fun b => by
  constructor
  · rintro ⟨n, x, h1, h2⟩;simp only [A1] at h1; split at h1
    · cases h1
    · rename_i hn;simp only [List.mem_cons, List.not_mem_nil, or_false, not_or] at hn;exact ⟨n, hn.1, hn.2, x, h1, h2⟩
  · rintro ⟨n, hn, hn2, x, h1, h2⟩;exact ⟨n, x, by simp only [A1]; rw [if_neg (by simp [hn, hn2])]; exact h1, h2⟩
 have hview : Ai w (F'.out ρ (mk (Ca 0 args ++ [(1000000, .p g 0)]) H).h) = vw F w ρ s := by
  show Ai w _ = Ai w _;congr 1;funext b;refine propext ⟨fun hb => ?_, fun hb => ?_⟩
  · rcases hb with hb | hb
    · obtain ⟨n, _, x, h1, h2⟩ := (how b).1 hb; exact .inl ⟨n, x, h1, h2⟩
    · rcases hb with hb | hb
      · obtain ⟨n, _, _, x, h1, h2⟩ := (hoth b).1 hb; exact .inl ⟨n, x, h1, h2⟩
      · exact .inr hb
  · rcases hb with ⟨n, x, h1, h2⟩ | hb
    · by_cases hn : n = g
      · subst hn; exact .inl ((how b).2 ((hmine b).2 (.inl h2)))
      · by_cases hn2 : n = m
        · subst hn2; exact .inl ((how b).2 ((hmine b).2 (.inr h2)))
        · exact .inr (.inl ((hoth b).2 ⟨n, hn, hn2, x, h1, h2⟩))
    · exact .inr (.inr hb)
 have hN := Me hf;have hR0 : RelR F' N' ρ (mk (Ca 0 args ++ [(1000000, .p g 0)]) H) { tmps := (⟨vs⟩ : Array Value) ++ Array.replicate (N' - (⟨vs⟩ : Array Value).size) undef, defers := [] } w := by
  refine ⟨⟨rfl, rfl, rfl, Nat.le_refl _, fun _ _ _ => rfl, fun b hb => ⟨?_, fun hmi => ?_⟩⟩, fun b hb => .inr ((how b).1 hb), fun n x hx => ?_, fun n k x y b hx hy hbx hby => ?_, fun n => ?_, by simp; omega, rfl⟩
  · rcases hb with hb | hb
    · obtain ⟨n, _, _, x, h1, h2⟩ := (hoth b).1 hb; exact (hR.own n x h1).lt h2
    · exact Nat.lt_of_lt_of_le (hR.fr.hid b hb).1 hR.fr.size
  · have hmb := (hmine b).1 hmi;rcases hb with hb | hb
    · obtain ⟨k, hk, hk2, y, g1, g2⟩ := (hoth b).1 hb;rcases hmb with hmb | hmb
      · exact hk (hR.inj k g y _ b g1 hsg g2 hmb)
      · exact hk2 (hR.inj k m y _ b g1 hsm g2 hmb)
    · rcases hmb with hmb | hmb
      · exact hR.shown ⟨g, _, hsg, hmb⟩ hb
      · exact hR.shown ⟨m, _, hsm, hmb⟩ hb
  · rw [hview]; exact hR.own _ _ (hin n x hx)
  · exact hR.inj n k x y b (hin n x hx) (hin k y hy) hbx hby
  · rw [hview];simp only [mk];unfold Fr.val;by_cases hb : n < Gj
    · rw [if_pos hb];have he : ((⟨vs⟩ : Array Value) ++ Array.replicate (N' - (⟨vs⟩ : Array Value).size) undef).getD n undef = (vs[n]?).getD undef := by
       rw [Array.getD_eq_getD_getElem?];by_cases hn : n < vs.length
       · rw [Array.getElem?_append_left (by simpa using hn)]; simp
       · rw [Array.getElem?_append_right (by simpa using hn)];rw [List.getElem?_eq_none (by omega)];simp only [Array.getElem?_replicate, Option.getD_none];split <;> rfl
      rw [he];have := Fc 0 n hc;simp only [Nat.zero_le, if_true, Nat.sub_zero] at this;by_cases hn : n < args.length
      · rw [W6 _ n 0 args (Nat.zero_le n) (by omega)]; exact this
      · rw [Qm _ n 0 args fun i h1 h2 => by omega];have : n ≠ 1000000 := fun e => by rw [e] at hb; exact Nat.lt_irrefl _ hb
        simp only [lk, if_neg this, Conc]
    · rw [if_neg hb, Qm _ n 0 args fun i h1 h2 => by omega];simp only [lk];split
      · obtain ⟨b, vs', ty, fr, u, k1, k2⟩ := hR.own g _ hsg;simp only [Conc];exact ⟨b, k1, k1⟩
      · simp only [Conc]
 refine Calls.mono (Ht hm hf rfl hR0.fr (fun b hb => by
  obtain ⟨n, hn, x, h1, h2⟩ := hb;exact (hR.own n x h1).lt h2) hR0 M5 (hrun F')) fun e w' he => ?_
 obtain ⟨v, ρ', s', a', y, rfl, hR', hy, hyx, ht, hg', hm'⟩ := he;subst hyx;have hadr : ρ g = ρ' g := by
  have h1 := hR'.tmps 1000000;rw [ht] at h1;have e : F'.val a' 1000000 = ρ g := by
   unfold Fr.val;rw [if_neg (show ¬ (1000000 : Nat) < Gj from Nat.lt_irrefl _)]
  rw [e] at h1;simp only [Conc] at h1;obtain ⟨b, e1, e2⟩ := h1;rw [e1, e2]
 let S : FS := s.hup [.new m (.row sz es'), .upd g (.var X')]
 let R : Nat → Value := upd ρ m (ρ' m)
 have Sg : S.h g = some (.var X') := by simp [S, FS.hup, FS.seth]
 have Sm : S.h m = some (.row sz es') := by simp [S, FS.hup, FS.seth, hgm.symm]
 have So : ∀ n, n ≠ g → n ≠ m → S.h n = (s.h n).map (Blk.kill m) := fun n h1 h2 => by simp [S, FS.hup, FS.seth, FS.kill, h1, h2]
 have Rg : R g = ρ' g := by simp only [R]; rw [A6 hgm]; exact hadr
 have Rm : R m = ρ' m := Al;have Ro : ∀ n, n ≠ m → R n = ρ n := fun n hn => A6 hn;have hlow : ∀ b, Bm (ρ' m) = some b → w.heap.size ≤ b ∨ Mn ρ s.h [g, m] b := fun b hb => hR'.may b ⟨m, _, hm', hb⟩;have hown : ∀ b, Bo R S.h b → (Bo ρ s.h b ∧ b < w.heap.size) ∨ (w.heap.size ≤ b ∧ Bm (ρ' m) = some b) := fun b hb => by
  obtain ⟨n, z, h1, h2⟩ := hb;by_cases e1 : n = g
  · subst e1; rw [Ro n hgm] at h2; exact .inl ⟨⟨n, _, hsg, h2⟩, (hR.own n _ hsg).lt h2⟩
  · by_cases e2 : n = m
    · subst e2; rw [Rm] at h2;rcases hlow b h2 with h3 | ⟨k, _, y, h4, h5⟩
      · exact .inr ⟨h3, h2⟩
      · exact .inl ⟨⟨k, y, h4, h5⟩, (hR.own k y h4).lt h5⟩
    · rw [So n e1 e2] at h1; rw [Ro n e2] at h2;obtain ⟨z', hz', _⟩ := Option.map_eq_some_iff.1 h1;exact .inl ⟨⟨n, z', hz', h2⟩, (hR.own n z' hz').lt h2⟩
 have hkeep : ∀ b, b < w.heap.size → ¬ Mn ρ s.h [g, m] b → w'.heap[b]? = w.heap[b]? := fun b hb hn => hR'.fr.block b hb hn;have hV1 : (vw F w ρ s).le (Ai w' (F.out R S.h)) := A4 fun b c ho hc => by
  have hlt : b < w.heap.size := Hs hc;refine ⟨fun hb => ?_, ?_⟩
  · rcases hb with hb | hb
    · rcases hown b hb with h1 | h1
      · exact ho (.inl h1.1)
      · omega
    · exact ho (.inr hb)
  · rw [Cj (hkeep b hlt fun ⟨k, _, y, h4, h5⟩ => ho (.inl ⟨k, y, h4, h5⟩))]; exact hc
 have hout2 : ∀ b, F.out R S.h b → F'.out ρ' s'.h b := fun b hb => by
  rcases hb with ⟨n, z, h1, h2⟩ | hb
  · by_cases e1 : n = g
    · subst e1; rw [Rg] at h2; exact .inl ⟨n, _, hg', h2⟩
    · by_cases e2 : n = m
      · subst e2; rw [Rm] at h2; exact .inl ⟨n, _, hm', h2⟩
      · rw [So n e1 e2] at h1; rw [Ro n e2] at h2;obtain ⟨z', hz', _⟩ := Option.map_eq_some_iff.1 h1;exact .inr (.inl ((hoth b).2 ⟨n, e1, e2, z', hz', h2⟩))
  · exact .inr (.inr hb)
 have hV2 : (Ai w' (F'.out ρ' s'.h)).le (Ai w' (F.out R S.h)) := A4 fun b c ho hc => ⟨fun hb => ho (hout2 b hb), hc⟩
 refine ⟨v, R, rfl, ⟨⟨hR'.fr.os.trans hR.fr.os, hR'.fr.tape.trans hR.fr.tape, hR'.fr.output.trans hR.fr.output, Nat.le_trans hR.fr.size hR'.fr.size, fun b hlt hM => ?_, hR.fr.hid⟩, fun b hb => ?_, fun n z hz => ?_, fun n k z z' b hn hk hbn hbk => ?_, fun n => ?_, hR.size, hR.defers⟩, Bf hV2 hx hy⟩
 · rw [hkeep b (Nat.lt_of_lt_of_le hlt hR.fr.size) fun ⟨k, _, y, h4, h5⟩ => ?_]
   · exact hR.fr.block b hlt hM
   · rcases hR.may b ⟨k, y, h4, h5⟩ with h1 | h1
     · omega
     · exact hM h1
 · rcases hown b hb with h1 | h1
   · exact hR.may b h1.1
   · exact .inl (Nat.le_trans hR.fr.size h1.1)
 · show Own w' (Ai w' (F.out R S.h)) R n z;have hz' : S.h n = some z := hz;by_cases e1 : n = g
   · subst e1;rw [Sg] at hz'; cases hz';obtain ⟨b, vs', ty, fr, u, k1, k2, k3, k4, k5⟩ := hR'.own n _ hg';refine ⟨b, vs', ty, fr, u, Rg.trans k1, k2, k3, k4.agree hV2 fun q hq => ?_, k5⟩;rcases hX q hq with rfl | rfl
     · exact Rg
     · exact Rm
   · by_cases e2 : n = m
     · subst e2;rw [Sm] at hz'; cases hz';exact Own.closed (blk := .row sz es') rfl hV2 Rm (hR'.own n _ hm')
     · rw [So n e1 e2] at hz';obtain ⟨z0, hz0, rfl⟩ := Option.map_eq_some_iff.1 hz';have ho := hR.own n z0 hz0;refine (ho.congr (V' := vw F w ρ s) (w' := w') (fun _ _ x => x) fun b hb => hkeep b (ho.lt hb) fun hmi => ?_).kill hV1 e2;rcases (hmine b).1 hmi with h1 | h1
       · exact e1 (hR.inj n g _ _ b hz0 hsg hb h1)
       · exact e2 (hR.inj n m _ _ b hz0 hsm hb h1)
 · have key : ∀ (q : Nat) (y : Blk), S.h q = some y → q ≠ m → ∃ y', s.h q = some y' := fun q y hq e2 => by
    by_cases e1 : q = g
    · subst e1; exact ⟨_, hsg⟩
    · rw [So q e1 e2] at hq;obtain ⟨y', hy', _⟩ := Option.map_eq_some_iff.1 hq;exact ⟨y', hy'⟩
   have one : ∀ (q : Nat) (y : Blk), S.h q = some y → Bm (R q) = some b → Bm (R m) = some b → q = m := fun q y hq hb1 hb2 => by
    by_cases e2 : q = m
    · exact e2
    · by_cases e1 : q = g
      · subst e1; rw [Rg] at hb1; rw [Rm] at hb2;exact hR'.inj q m _ _ b hg' hm' hb1 hb2
      · obtain ⟨y', hy'⟩ := key q y hq e2;rw [Ro q e2] at hb1; rw [Rm] at hb2;rcases hlow b hb2 with h3 | h3
        · have := (hR.own q y' hy').lt hb1; omega
        · rcases (hmine b).1 h3 with h1 | h1
          · exact absurd (hR.inj q g _ _ b hy' hsg hb1 h1) e1
          · exact hR.inj q m _ _ b hy' hsm hb1 h1
   by_cases e1 : n = m
   · rw [e1] at hbn ⊢; exact (one k z' hk hbk hbn).symm
   · by_cases e2 : k = m
     · rw [e2] at hbk ⊢; exact one n z hn hbn hbk
     · obtain ⟨z1, h1⟩ := key n z hn e1;obtain ⟨z2, h2⟩ := key k z' hk e2;rw [Ro n e1] at hbn; rw [Ro k e2] at hbk;exact hR.inj n k z1 z2 b h1 h2 hbn hbk
 · show Conc _ R ((s.t n).kill m) _;exact (hR.tmps n).kill hV1
theorem Gu : ∀ {a b : List SV} {vs : List Value}, Cells V ρ (a ++ b) vs → ∃ va vb, vs = va ++ vb ∧ Cells V ρ a va ∧ Cells V ρ b vb
 | [], b, vs, h => ⟨[], vs, rfl, by simp only [Cells], h⟩
 | x :: a, b, vs, h => by
   simp only [List.cons_append, Cells] at h;obtain ⟨u, us, rfl, h1, h2, h3, h4⟩ := h;obtain ⟨va, vb, rfl, h5, h6⟩ := Gu h4;exact ⟨An u ++ va, vb, by rw [List.append_assoc], by simp only [Cells]; exact ⟨u, va, rfl, h1, h2, h3, h5⟩, h6⟩
theorem Hr : ∀ {a b : List SV} {va vb : List Value}, Cells V ρ a va → Cells V ρ b vb → Cells V ρ (a ++ b) (va ++ vb)
 | [], b, va, vb, h, k => by simp only [Cells] at h; subst h; exact k
 | x :: a, b, va, vb, h, k => by
   simp only [Cells] at h;obtain ⟨u, us, rfl, h1, h2, h3, h4⟩ := h;simp only [List.cons_append, Cells];exact ⟨u, us ++ vb, by rw [List.append_assoc], h1, h2, h3, Hr h4 k⟩
theorem FunOk.nilos {f : Nat} {args : List SV} {h : Nat → Option Blk} {d : Nat} {a b : List SV} {z sz : Nat} (hf : FunOk P f args h d (.agg (a ++ .pv (.sl true z []) :: b)) []) (ha : SV.closedL a = true) (hb : SV.closedL b = true) (hs : 0 < sz) :
 FunOk P f args h d (.agg (a ++ .os d :: b)) [.new d (.row sz [])] := by
 refine ⟨hf.1, fun F N ρ s ac w hR hh vs hv => Calls.mono (hf.2 F N ρ s ac w hR hh vs hv) fun e w' he => ?_⟩;obtain ⟨v, ρ', rfl, hR', hy⟩ := he;simp only [FS.hup, Conc] at hR' hy;obtain ⟨us, rfl, hc⟩ := hy;obtain ⟨va, vb, rfl, h1, h2⟩ := Gu hc;simp only [Cells] at h2;obtain ⟨u, ub, rfl, h3, h4, h5, h6⟩ := h2;simp only [Conc] at h3;obtain ⟨base, rfl⟩ : ∃ base, u = .slice base 0 0 := by
  cases h3 with
  | sl full sz es a cap cs bl off arr hcap hfull hsz ha hcs hel =>
    have := hfull rfl;simp only [List.length_nil] at this;subst this;exact ⟨a, rfl⟩
 have hn := hR'.adopt (Grew.refl w') d (.row sz []) (.slice base 0 0) (fun b hb => by cases base <;> simp [Bm] at hb) fun hV => ⟨base, 0, by rw [Al]; rfl, Nat.le_refl _, hs, by simp, fun h => absurd rfl h⟩
 refine ⟨_, _, rfl, hn.1, ?_⟩;simp only [Conc];refine ⟨_, rfl, Hr (Ci hn.2 ha h1) ?_⟩;simp only [Cells];exact ⟨.slice base 0 0, ub, rfl, by simp only [Conc]; exact ⟨by rw [Al], trivial⟩, h4, h5, Ci hn.2 hb h6⟩
end Go.Proofs.Ythmjebkldgdeiaa.Fw
