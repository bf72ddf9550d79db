/- Loops, calls and loops over functions of the small language do in the model what their meaning tells. -/
import Derived.Test.YthhomcfimdkfhaaGreatFwC
set_option linter.unusedVariables false
set_option linter.unusedSimpArgs false
set_option linter.unusedSectionVars false
namespace Go.Proofs.YthhomcfimdkfhaaGreat.Fw
open Go.RowKit
variable {P : Program} {F : Fr} {N : Nat} {ρ ρ' : Nat → Value} {s : FS} {a : Act} {w w' : World} {V V' : View}
def Dv : Nat → List SV → List (Nat × SV)
 | _, [] => []
 | k, x :: l => (k, x) :: Dv (k + 1) l
inductive Rv where
 | t (n : Nat)
 | c (a size : Nat) (ag : Bool)
def Ld (s : FS) : List Rv → (List SV → Prop) → Prop
 | [], K => K []
 | .t n :: rs, K => Ld s rs fun l => K (s.t n :: l)
 | .c a size ag :: rs, K => Il s.h size ag (s.t a) fun x u => u = [] ∧ Ld s rs fun l => K (x :: l)
def one : List SV → SV
 | [x] => x
 | l => .tup l
def A1d (rs : List Rv) (R : SV → FS → Prop) : Df
 | .normal, s => Ld s rs fun l => R (one l) s
 | .ret, s => Ld s rs fun l => R (one l) s
 | _, _ => False
def Wt (rs : List Rv) (R : SV → FS → Prop) (s : FS) : Prop := ∃ s', Wk s s' ∧ Ld s' rs fun l => R (one l) s'
def Aru (rs : List Rv) (R : SV → FS → Prop) : Df
 | .normal, s => Wt rs R s
 | .ret, s => Wt rs R s
 | _, _ => False
def Pk (rs : List Rv) (R : SV → (Nat → Option Blk) → Prop) : Df := A1d rs fun y s => R y s.h
def Zg (P : Program) : ResultVar → Option Rv
 | .tmp t => if t < N8 then some (.t t) else none
 | .cell a t => match Ah P t, F4 P t with
   | some sz, some ag => if sz = 0 ∨ N8 ≤ a then none else some (.c a sz ag)
   | _, _ => none
def A9 (P : Program) (f : Nat) : Option (Nat × List Rv × C) := match P.funcs[f]? with
 | some fn => match fn.body, Ar (fn.results.toList.map (Zg P)) with
   | some code, some rs => if fn.name = "runtime.NumGoroutine" ∨ N8 < fn.ntmps then none else (Bv P fn.ntmps code).map fun c => (fn.ntmps, rs, c)
   | _, _ => none
 | none => none
theorem Aag {f : Nat} {rs : List Rv} {c : C} (h : A9 P f = some (N, rs, c)) : ∃ fn code, P.funcs[f]? = some fn ∧ fn.name ≠ "runtime.NumGoroutine" ∧ fn.body = some code ∧ fn.ntmps = N ∧ Ar (fn.results.toList.map (Zg P)) = some rs ∧ Bv P N code = some c := by
 unfold A9 at h;split at h
 · rename_i fn hf;split at h
   · rename_i code rs' hb hr;split at h
     · cases h
     · rename_i hn;obtain ⟨c', hc, e⟩ := Option.map_eq_some_iff.1 h;cases e;exact ⟨fn, code, hf, fun e => hn (.inl e), hb, rfl, hr, hc⟩
   · cases h
 · cases h
theorem Ts {f : Nat} {rs : List Rv} {c : C} (h : A9 P f = some (N, rs, c)) : N ≤ N8 := by
 unfold A9 at h;split at h
 · split at h
   · split at h
     · cases h
     · rename_i hn;obtain ⟨c', hc, e⟩ := Option.map_eq_some_iff.1 h;cases e;exact Nat.le_of_not_lt fun e => hn (.inr e)
   · cases h
 · cases h
theorem Alc {t : TypeId} {x v : Value} (h : (Instr.loadAt t x).run P w = .ok v w) : (do loadVar t (← asAddr x) : Sem Value).run P w = .ok v w := by
 unfold Instr.loadAt at h;cases x <;> first | exact h | skip
 all_goals first | (rename_i o; cases o <;> first | exact h | (cases h)) | (cases h)
theorem Agu (tmps : Array Value) (g : ResultVar → Sem Value) (hg : ∀ t, g (.tmp t) = pure (tmps.getD t undef)) (hg' : ∀ a t v, (Instr.loadAt t (tmps.getD a undef)).run P w = .ok v w → (g (.cell a t)).run P w = .ok v w) (hR : RelR F N ρ s a w) (ht : a.tmps = tmps) :
 ∀ (vars : List ResultVar) (rs : List Rv) (K : List SV → Prop) (acc : Array Value), Ar (vars.map (Zg P)) = some rs → Ld s rs K →
  ∃ l vs, K l ∧ ConcL (vw F w ρ s) ρ l vs ∧ (List.foldlM (fun (bs : Array Value) r => bs.push <$> g r) acc vars).run P w = .ok (acc ++ (⟨vs⟩ : Array Value)) w
 | [], rs, K, acc, h, hk => by
   simp only [List.map_nil, Ar, Option.some.injEq] at h;subst h;exact ⟨[], [], hk, by simp only [ConcL], by simp⟩
 | x :: vars, rs, K, acc, h, hk => by
   obtain ⟨r, rs', rfl, h1, h2⟩ := A6 (show Ar (Zg P x :: vars.map (Zg P)) = some rs from h);have key : ∀ (v : Value) (y : SV), (g x).run P w = .ok v w → Conc (vw F w ρ s) ρ y v → (Ld s rs' fun l => K (y :: l)) →
    ∃ l vs, K l ∧ ConcL (vw F w ρ s) ρ l vs ∧ (List.foldlM (fun (bs : Array Value) r => bs.push <$> g r) acc (x :: vars)).run P w = .ok (acc ++ (⟨vs⟩ : Array Value)) w := fun v y hv hy hk' => by
    obtain ⟨l, vs, k1, k2, k3⟩ := Agu tmps g hg hg' hR ht vars rs' _ (acc.push v) h2 hk';refine ⟨y :: l, v :: vs, k1, by simp only [ConcL]; exact ⟨v, vs, rfl, hy, k2⟩, ?_⟩;rw [List.foldlM_cons];have : (acc.push <$> g x : Sem (Array Value)).run P w = .ok (acc.push v) w := by
     rw [← bind_pure_comp];rw [Ab hv]; rfl
    rw [Ab this, k3];congr 1;exact Array.toList_inj.1 (by simp)
   cases x with
   | tmp t =>
     simp only [Zg] at h1;split at h1
     · rename_i hb;simp only [Option.some.injEq] at h1;subst h1;simp only [Ld] at hk;refine key (tmps.getD t undef) (s.t t) (by rw [hg]; rfl) ?_ hk;rw [← ht]; exact hR.tm t hb
     · cases h1
   | cell b t =>
     simp only [Zg] at h1;split at h1
     · rename_i sz ag hsz hag;split at h1
       · cases h1
       · rename_i hne;simp only [Option.some.injEq] at h1;subst h1;simp only [Ld] at hk;obtain ⟨v, y, g1, g2, g3⟩ := Awn (P := P) hR (hR.tm b (by omega)) (by omega) hsz hag hk;exact key v y (hg' b t v (by rw [← ht]; exact g1)) g3 g2.2
     · cases h1
theorem Abq {fn : Func} {rs : List Rv} (hR : RelR F N ρ s a w) (h : Ar (fn.results.toList.map (Zg P)) = some rs) {K : List SV → Prop} (hk : Ld s rs K) :
 ∃ l v, K l ∧ Conc (vw F w ρ s) ρ (one l) v ∧ (results fn a.tmps).run P w = .ok v w := by
 unfold results;rw [Array.mapM_eq_foldlM];rw [← Array.foldlM_toList];obtain ⟨l, vs, h1, h2, h3⟩ := Agu (P := P) a.tmps (fun x => match x with
  | .tmp t => pure (a.tmps.getD t undef)
  | .cell b t => do loadVar t (← asAddr (a.tmps.getD b undef))) (fun _ => rfl) (fun b t v hv => Alc hv) hR rfl fn.results.toList rs K #[] h hk
 refine ⟨l, _, h1, ?_, (Ab h3).trans rfl⟩;cases l with
 | nil => simp only [ConcL] at h2; subst h2; simp only [one, Conc]; exact ⟨[], rfl, by simp only [ConcL]⟩
 | cons x l =>
   simp only [ConcL] at h2;obtain ⟨v, us, rfl, h4, h5⟩ := h2;cases l with
   | nil => simp only [ConcL] at h5; subst h5; simpa [one] using h4
   | cons y l =>
     have h5' := h5;simp only [ConcL] at h5;obtain ⟨v', us', rfl, h6, h7⟩ := h5;simp only [one, Conc];refine ⟨v :: v' :: us', ?_, by simp only [ConcL]; exact ⟨v, _, rfl, h4, v', us', rfl, h6, h7⟩⟩;simp
theorem I4 : ∀ {args : List SV} {vs : List Value} (k : Nat) (n : Nat), ConcL V ρ args vs → Conc V ρ (lk .dead n (Dv k args)) (if k ≤ n then (vs[n - k]?).getD undef else undef)
 | [], vs, k, n, h => by simp [Dv, lk, Conc]
 | x :: l, vs, k, n, h => by
   simp only [ConcL] at h;obtain ⟨v, us, rfl, h1, h2⟩ := h;simp only [Dv, lk];split
   · rename_i e; subst e; simp; exact h1
   · rename_i e;have := I4 (k + 1) n h2;by_cases hk : k ≤ n
     · have hk' : k + 1 ≤ n := by omega
       rw [if_pos hk'] at this;rw [if_pos hk];have : n - k = (n - (k + 1)) + 1 := by omega
       rw [this]; simpa using I4 (k + 1) n h2 |> fun q => by rw [if_pos hk'] at q; exact q
     · rw [if_neg (by omega)] at this;rw [if_neg hk]; exact this
theorem RelR.obj (h : RelR F N ρ s a w) {l : Nat} {o : Obj} (o' : Obj) (hl : w.heap[l]? = some o) (ho : o.isCells = false) (hlt : l < F.w0.heap.size) (hM : ¬ F.M0 l) : RelR { F with w0 := F.w0.putObj l o' } N ρ s a (w.putObj l o') := by
 have hlw : l < w.heap.size := (Array.getElem?_eq_some_iff.1 hl).1;have hne : ∀ b, Cd ρ s.h b → b ≠ l := fun b hb e => by
  subst e;rcases h.may b hb with h1 | h1
  · omega
  · exact hM h1
 have hV : (Ay w (F.out ρ s.h)).le (Ay (w.putObj l o') (F.out ρ s.h)) := Bk fun b c ho' hc => by
  refine ⟨ho', ?_⟩;have : b ≠ l := fun e => by
   subst e;unfold Em at hc;rw [hl] at hc;cases o <;> simp_all [Obj.isCells]
  rw [Dq (World.putObj_heap_other this)]; exact hc
 refine ⟨⟨h.fr.os, h.fr.tape, h.fr.output, by simpa using h.fr.size, fun b hb hm => ?_, fun b hb => by simpa using h.fr.hid b hb⟩, fun b hb => by simpa using h.may b hb, fun n x hx => ?_, h.inj, fun n => (h.tmps n).mono hV, h.size, h.defers⟩
 · by_cases e : b = l
   · subst e;rw [World.putObj_heap_same hlw, World.putObj_heap_same hlt]
   · rw [World.putObj_heap_other e, World.putObj_heap_other e];exact h.fr.block b (by simpa using hb) hm
 · exact (h.own n x hx).congr hV fun b hb => World.putObj_heap_other (hne b ⟨n, x, hx, hb⟩)
theorem Desc.back {F0 : Fr} (hd : Desc F0 F) (h : RelR F N ρ s a w) (h0 : F0.defs = []) : RelR F0 N ρ s ⟨a.tmps, []⟩ w := by
 have ho : F.out ρ s.h = F0.out ρ s.h := by unfold Fr.out; rw [hd.hid]
 have hb := hd.base;refine ⟨⟨h.fr.os.trans hb.os, h.fr.tape.trans hb.tape, h.fr.output.trans hb.output, Nat.le_trans hb.size h.fr.size, fun b hlt hm => ?_, hb.hid⟩, fun b hbb => hd.may b (h.may b hbb), fun n x hx => by rw [← ho]; exact h.own n x hx, h.inj, fun n => ?_, h.size, h0.symm⟩
 · rw [h.fr.block b (Nat.lt_of_lt_of_le hlt hb.size) fun e => ?_]
   · exact hb.block b hlt hm
   · rcases hd.may b (.inr e) with h1 | h1
     · omega
     · exact hm h1
 · rw [← ho];have := h.tmps n;unfold Fr.val at this ⊢;rw [← hd.x]; exact this
theorem Desc.refl {F0 : Fr} (hR : F0.ok F0.w0) (hm : ∀ b, F0.M0 b → b < F0.w0.heap.size) (h0 : F0.defs = []) : Desc F0 F0 := ⟨hR, hm, fun _ h => h, rfl, rfl, by rw [h0]; trivial⟩
theorem Acj {fn : Func} {rs : List Rv} (h5 : Ar (fn.results.toList.map (Zg P)) = some rs) {F0 : Fr} (h0 : F0.defs = []) {R : Ending → World → Prop} {tm : Array Value} {K : List SV → Prop} (hk : Ld s rs K)
 (hend : ∀ l v w, K l → RelR F0 N ρ s ⟨tm, []⟩ w → Conc (vw F0 w ρ s) ρ (one l) v → R (.returned v) w) :
 ∀ (ds : List Deferred) {F : Fr} {w : World}, Desc F0 { F with defs := [] } → Arv F0 F ds → RelR { F with defs := [] } N ρ s ⟨tm, []⟩ w → LeavesInM (Gd none) 0 P fn tm R ds .returning w
 | [], F, w, hd, _, hR => by
   have hR' := hd.back hR h0;obtain ⟨l, v, k1, k2, k3⟩ := Abq (P := P) hR' h5 hk;exact ⟨v, k3, hend l v w k1 hR' k2⟩
 | d :: ds, F, w, hd, hm, hR => by
   obtain ⟨⟨D, rfl, g1, g2, g3, g4, g5⟩, hm⟩ := hm;have hw : w.heap[D]? = some (.deferred (some [])) := (hR.fr.block D g2 g3).trans g4;refine ⟨by simp, .inl ⟨D, _, rfl, run_takeDeferred hw, ?_⟩⟩;have hR2 := hR.obj (.deferred none) hw rfl g2 g3;refine Acj h5 h0 hk hend ds (F := { F with w0 := F.w0.putObj D (.deferred none) }) ⟨?_, fun b hb => by simpa using hd.m0 b hb, fun b hb => hd.may b (by simpa using hb), hd.hid, hd.x, trivial⟩ ?_ hR2
   · have hb := hd.base;refine ⟨hb.os, hb.tape, hb.output, by simpa using hb.size, fun b hlt hm => ?_, hb.hid⟩;show (F.w0.putObj D (.deferred none)).heap[b]? = _;rw [World.putObj_heap_other (by omega)];exact hb.block b hlt hm
   · clear hR hR2 hw
     induction ds with
     | nil => trivial
     | cons e ds ih =>
       obtain ⟨⟨E, rfl, k1, k2, k3, k4, k5⟩, hm⟩ := hm;have hne : E ≠ D := fun h => g5 _ List.mem_cons_self (by rw [h]);exact ⟨⟨E, rfl, k1, by simpa using k2, k3, by rw [World.putObj_heap_other hne]; exact k4, k5⟩, ih hm (fun e he => g5 e (List.mem_cons_of_mem _ he))⟩
theorem Ly (hm : P.follows .mixedOrders = true) {f N' : Nat} {rs : List Rv} {c : C} (hf : A9 P f = some (N', rs, c)) {F0 : Fr} {s0 : FS} {vs : List Value} (h0 : F0.defs = []) (hok : F0.ok F0.w0) (hm0 : ∀ b, F0.M0 b → b < F0.w0.heap.size)
 (hR : RelR F0 N' ρ s0 { tmps := (⟨vs⟩ : Array Value) ++ Array.replicate (N' - (⟨vs⟩ : Array Value).size) undef, defers := [] } w) {R : SV → FS → Prop} {Q : Df} (hQ : ∀ e s, Q e s → (e = .normal ∨ e = .ret) ∧ Wt rs R s) (hrun : sx (Wx P F0 N') c Q s0) :
 Calls P f ⟨vs⟩ w fun e w' => ∃ v ρ' s' a' y, e = .returned v ∧ RelR F0 N' ρ' s' a' w' ∧ Conc (vw F0 w' ρ' s') ρ' y v ∧ R y s' := by
 obtain ⟨fn, code, h1, h2, h3, h4, h5, h6⟩ := Aag hf;subst h4;refine callsIn_wide.1 (callsIn_of_wp_marks (F := Gd none) (n := 0) h1 h3 trivial (wpIn_mono (Sd hm h6 hrun ⟨F0, Desc.refl hok hm0 h0, ρ, hR⟩) fun e a' w' he => ?_));have fin : (∃ s, RelX (Desc F0) fn.ntmps s a' w' ∧ Wt rs R s) → LeavesInM (Gd none) 0 P fn a'.tmps (fun e w' => ∃ v ρ' s' a' y, e = .returned v ∧ RelR F0 fn.ntmps ρ' s' a' w' ∧ Conc (vw F0 w' ρ' s') ρ' y v ∧ R y s') a'.defers .returning w' := fun ⟨s1, hX, s', hwk, hr⟩ => by
  obtain ⟨F, hd, ρ', hR'⟩ := hX.wk hwk;rw [hR'.defers];refine Acj h5 h0 hr (fun l v w k1 k2 k3 => ⟨v, ρ', s', _, _, rfl, k2, k3, k1⟩) F.defs (F := F) ⟨hd.base, hd.m0, hd.may, hd.hid, hd.x, trivial⟩ hd.marks ?_;exact ⟨⟨hR'.fr.os, hR'.fr.tape, hR'.fr.output, hR'.fr.size, hR'.fr.block, hR'.fr.hid⟩, hR'.may, hR'.own, hR'.inj, hR'.tmps, hR'.size, rfl⟩
 cases e with
 | normal => obtain ⟨s, h, hq⟩ := he; exact fin ⟨s, h, (hQ _ _ hq).2⟩
 | ret => obtain ⟨s, h, hq⟩ := he; exact fin ⟨s, h, (hQ _ _ hq).2⟩
 | exit id =>
   obtain ⟨s, h, hq⟩ := he;rcases (hQ _ _ hq).1 with e | e <;> cases e
 | goto _ => exact he.elim
 | panic _ => exact he.elim
 | outgrown => exact he.elim
theorem Wk.same (s : FS) : Wk s s := .weak ⟨fun n => Imp.refl _, fun n b hb => by
 rw [hb];simp only [Aj8];cases b with
 | var x => exact ⟨Imp.refl _, rfl⟩
 | row sz es => exact ⟨rfl, rfl⟩
 | rowc sz es c => exact ⟨rfl, rfl, rfl⟩
 | it l p => exact ⟨rfl, rfl⟩⟩
theorem J9 {rs : List Rv} {R : SV → FS → Prop} (e : Ex) (s : FS) (h : A1d rs R e s) : (e = .normal ∨ e = .ret) ∧ Wt rs R s := by
 cases e with
 | normal => exact ⟨.inl rfl, s, .same s, h⟩
 | ret => exact ⟨.inr rfl, s, .same s, h⟩
 | exit _ => exact h.elim
theorem Aek {rs : List Rv} {R : SV → FS → Prop} (e : Ex) (s : FS) (h : Aru rs R e s) : (e = .normal ∨ e = .ret) ∧ Wt rs R s := by
 cases e with
 | normal => exact ⟨.inl rfl, h⟩
 | ret => exact ⟨.inr rfl, h⟩
 | exit _ => exact h.elim
theorem Afp (hm : P.follows .mixedOrders = true) {f N' : Nat} {rs : List Rv} {c : C} (hf : A9 P f = some (N', rs, c)) {F0 : Fr} {s0 : FS} {vs : List Value} (h0 : F0.defs = []) (hok : F0.ok F0.w0) (hm0 : ∀ b, F0.M0 b → b < F0.w0.heap.size)
 (hR : RelR F0 N' ρ s0 { tmps := (⟨vs⟩ : Array Value) ++ Array.replicate (N' - (⟨vs⟩ : Array Value).size) undef, defers := [] } w) {R : SV → FS → Prop} (hrun : sx (Wx P F0 N') c (A1d rs R) s0) :
 Calls P f ⟨vs⟩ w fun e w' => ∃ v ρ' s' a' y, e = .returned v ∧ RelR F0 N' ρ' s' a' w' ∧ Conc (vw F0 w' ρ' s') ρ' y v ∧ R y s' := Ly hm hf h0 hok hm0 hR J9 hrun
theorem Ak6 (hm : P.follows .mixedOrders = true) {f : Nat} {rs : List Rv} {c : C} (hf : A9 P f = some (N, rs, c)) {hid : Nat → Prop} (hhid : ∀ b, hid b → b < w.heap.size) {args : List SV} {vs : List Value} (hlen : args.length ≤ N)
 (hc : ConcL (Ay w hid) ρ args vs) {R : SV → FS → Prop} {Q : Df} (hQ : ∀ e s, Q e s → (e = .normal ∨ e = .ret) ∧ Wt rs R s) (hrun : sx (Wx P ⟨w, fun _ => False, hid, fun _ => undef, []⟩ N) c Q (mk (Dv 0 args) [])) :
 Calls P f ⟨vs⟩ w fun e w' => ∃ v ρ' s' a' y, e = .returned v ∧ RelR ⟨w, fun _ => False, hid, fun _ => undef, []⟩ N ρ' s' a' w' ∧ Conc (vw ⟨w, fun _ => False, hid, fun _ => undef, []⟩ w' ρ' s') ρ' y v ∧ R y s' := by
 obtain ⟨fn, code, h1, h2, h3, h4, h5, h6⟩ := Aag hf;subst h4;have hN := Ts hf;have hvl : vs.length = args.length := by
  clear hrun hlen
  induction args generalizing vs with
  | nil => simp only [ConcL] at hc; subst hc; rfl
  | cons x l ih =>
    simp only [ConcL] at hc;obtain ⟨v, us, rfl, _, h⟩ := hc;simp [ih h]
 have hR : RelR ⟨w, fun _ => False, hid, fun _ => undef, []⟩ fn.ntmps ρ (mk (Dv 0 args) []) { tmps := (⟨vs⟩ : Array Value) ++ Array.replicate (fn.ntmps - (⟨vs⟩ : Array Value).size) undef, defers := [] } w := by
  have how : ∀ b, ¬ Cd ρ (mk (Dv 0 args) []).h b := fun b ⟨n, x, h, _⟩ => by simp [mk, lk] at h
  have hV : (Ay w hid).le (Ay w ((⟨w, fun _ => False, hid, fun _ => undef, []⟩ : Fr).out ρ (mk (Dv 0 args) []).h)) :=
   Bk fun b c ho hc => ⟨fun hb => hb.elim (how b) ho, hc⟩
  refine ⟨⟨rfl, rfl, rfl, Nat.le_refl _, fun _ _ _ => rfl, fun b hb => ⟨hhid b hb, id⟩⟩, fun b hb => absurd hb (how b), fun n x hx => by simp [mk, lk] at hx, fun n m x y b hx => by simp [mk, lk] at hx, fun n => ?_, by simp; omega, rfl⟩;have := (I4 0 n hc).mono hV;simp only [Nat.zero_le, if_true, Nat.sub_zero] at this;simp only [mk];have he : ((⟨vs⟩ : Array Value) ++ Array.replicate (fn.ntmps - (⟨vs⟩ : Array Value).size) undef).getD n undef = (vs[n]?).getD undef := by
   rw [Array.getD_eq_getD_getElem?];by_cases hn : n < vs.length
   · rw [Array.getElem?_append_left (by simpa using hn)]; simp
   · rw [Array.getElem?_append_right (by simpa using hn)];rw [List.getElem?_eq_none (by omega)];simp only [Array.getElem?_replicate, Option.getD_none];split <;> rfl
  unfold Fr.val;by_cases hb : n < N8
  · rw [if_pos hb, he]; exact this
  · rw [if_neg hb];rw [List.getElem?_eq_none (by omega)] at this; exact this
 exact Ly hm hf rfl (by exact ⟨rfl, rfl, rfl, Nat.le_refl _, fun _ _ _ => rfl, fun b hb => ⟨hhid b hb, id⟩⟩) (fun b (h : False) => h.elim) hR hQ hrun
end Go.Proofs.YthhomcfimdkfhaaGreat.Fw
namespace Go.Proofs.YthhomcfimdkfhaaGreat.Fw
open Go.RowKit
variable {P : Program} {F : Fr} {N : Nat} {ρ ρ' : Nat → Value} {s : FS} {a : Act} {w w' : World} {V V' : View}
mutual
def SV.closed : SV → Bool
 | .pv _ => true
 | .vec _ _ => true
 | .agg l => SV.closedL l
 | .tup l => SV.closedL l
 | .pi _ _ _ _ => true
 | .fn _ l => SV.closedL l
 | .dead => true
 | _ => false
def SV.closedL : List SV → Bool
 | [] => true
 | x :: l => x.closed && SV.closedL l
end
mutual
theorem B9 (hV : V.le V') : ∀ {x : SV} {v : Value}, x.closed = true → Conc V ρ x v → Conc V' ρ' x v
 | .pv x, v, _, h => by simp only [Conc] at *; exact h.mono hV
 | .vec n cs, v, _, h => by simp only [Conc] at *; obtain ⟨vs, a, b, c⟩ := h; exact ⟨vs, a, b, c.mono hV⟩
 | .agg l, v, hc, h => by simp only [Conc, SV.closed] at *; obtain ⟨vs, a, b⟩ := h; exact ⟨vs, a, F1 hV hc b⟩
 | .tup l, v, hc, h => by simp only [Conc, SV.closed] at *; obtain ⟨vs, a, b⟩ := h; exact ⟨vs, a, Iv hV hc b⟩
 | .pi sz es i off, v, _, h => by
   have := Conc.mono (ρ := ρ) hV h;simp only [Conc] at *; exact this
 | .fn f l, v, hc, h => by simp only [Conc, SV.closed] at *; obtain ⟨vs, a, b⟩ := h; exact ⟨vs, a, Iv hV hc b⟩
 | .dead, v, _, h => by simp only [Conc]
 | .p _ _, v, hc, h => by simp [SV.closed] at hc
 | .ps _ _, v, hc, h => by simp [SV.closed] at hc
 | .pr _ _ _ _, v, hc, h => by simp [SV.closed] at hc
 | .os _, v, hc, h => by simp [SV.closed] at hc
 | .ov _ _ _ _, v, hc, h => by simp [SV.closed] at hc
theorem Iv (hV : V.le V') : ∀ {l : List SV} {vs : List Value}, SV.closedL l = true → ConcL V ρ l vs → ConcL V' ρ' l vs
 | [], vs, _, h => by simp only [ConcL] at *; exact h
 | x :: l, vs, hc, h => by
   simp only [ConcL, SV.closedL, Bool.and_eq_true] at *;obtain ⟨u, us, a, b, c⟩ := h;exact ⟨u, us, a, B9 hV hc.1 b, Iv hV hc.2 c⟩
theorem F1 (hV : V.le V') : ∀ {l : List SV} {vs : List Value}, SV.closedL l = true → Cells V ρ l vs → Cells V' ρ' l vs
 | [], vs, _, h => by simp only [Cells] at *; exact h
 | x :: l, vs, hc, h => by
   simp only [Cells, SV.closedL, Bool.and_eq_true] at *;obtain ⟨u, us, a, b, c, d, e⟩ := h;exact ⟨u, us, a, B9 hV hc.1 b, c, d, F1 hV hc.2 e⟩
end
def PV.flat : PV → Bool
 | .sl _ _ es => es.isEmpty
 | _ => true
mutual
def SV.scalar : SV → Bool
 | .pv x => x.flat
 | .vec _ cs => cs.all PV.flat
 | .agg l => SV.scalarL l
 | .tup l => SV.scalarL l
 | _ => false
def SV.scalarL : List SV → Bool
 | [] => true
 | x :: l => x.scalar && SV.scalarL l
end
theorem Ny {x : PV} {v : Value} (hf : x.flat = true) (h : PConc V x v) : PConc V' x v := by
 cases h with
 | i k n => exact .i k n
 | b x => exact .b x
 | s l => exact .s l
 | v _ h => exact .v _ h
 | sl full sz es a cap cs bl off arr hcap hfull hsz ha hcs hel =>
   have he : es = [] := by cases es <;> simp_all [PV.flat]
   subst he;exact .sl full sz [] a cap cs bl off arr hcap hfull hsz (fun h => absurd rfl h) hcs (fun i j c x h => by simp at h)
theorem Lp {cs : List PV} {vs : List Value} (hf : cs.all PV.flat = true) (h : PCells V cs vs) : PCells V' cs vs :=
 ⟨h.1, fun j x hx => by
  obtain ⟨v, h1, h2⟩ := h.2 j x hx;exact ⟨v, h1, Ny (List.all_eq_true.1 hf x (List.mem_of_getElem? hx)) h2⟩⟩
mutual
theorem Hy : ∀ {x : SV} {v : Value}, x.scalar = true → Conc V ρ x v → Conc V' ρ' x v
 | .pv x, v, hc, h => by
   simp only [Conc, SV.scalar] at hc h ⊢;exact Ny hc h
 | .vec n cs, v, hc, h => by
   simp only [Conc, SV.scalar] at hc h ⊢;obtain ⟨vs, a, b, c⟩ := h;exact ⟨vs, a, b, Lp hc c⟩
 | .agg l, v, hc, h => by simp only [Conc, SV.scalar] at *; obtain ⟨vs, a, b⟩ := h; exact ⟨vs, a, Pt hc b⟩
 | .tup l, v, hc, h => by simp only [Conc, SV.scalar] at *; obtain ⟨vs, a, b⟩ := h; exact ⟨vs, a, Ps hc b⟩
 | .pi _ _ _ _, v, hc, h => by simp [SV.scalar] at hc
 | .fn _ _, v, hc, h => by simp [SV.scalar] at hc
 | .dead, v, hc, h => by simp [SV.scalar] at hc
 | .p _ _, v, hc, h => by simp [SV.scalar] at hc
 | .ps _ _, v, hc, h => by simp [SV.scalar] at hc
 | .pr _ _ _ _, v, hc, h => by simp [SV.scalar] at hc
 | .os _, v, hc, h => by simp [SV.scalar] at hc
 | .ov _ _ _ _, v, hc, h => by simp [SV.scalar] at hc
theorem Ps : ∀ {l : List SV} {vs : List Value}, SV.scalarL l = true → ConcL V ρ l vs → ConcL V' ρ' l vs
 | [], vs, _, h => by simp only [ConcL] at *; exact h
 | x :: l, vs, hc, h => by
   simp only [ConcL, SV.scalarL, Bool.and_eq_true] at *;obtain ⟨u, us, a, b, c⟩ := h;exact ⟨u, us, a, Hy hc.1 b, Ps hc.2 c⟩
theorem Pt : ∀ {l : List SV} {vs : List Value}, SV.scalarL l = true → Cells V ρ l vs → Cells V' ρ' l vs
 | [], vs, _, h => by simp only [Cells] at *; exact h
 | x :: l, vs, hc, h => by
   simp only [Cells, SV.scalarL, Bool.and_eq_true] at *;obtain ⟨u, us, a, b, c, d, e⟩ := h;exact ⟨u, us, a, Hy hc.1 b, c, d, Pt hc.2 e⟩
end
def Aou (x : SV) (off : Nat) : Option (List PV) → SV
 | some cs => .pi x.width [cs] 0 off
 | none => .dead
mutual
def Me (h : Nat → Option Blk) : SV → SV
 | .os n => match h n with
   | some (.row sz es) => .pv (.sl false sz es)
   | _ => .dead
 | .p n off => match h n with
   | some (.var x) => Aou x off x.cells?
   | _ => .dead
 | .fn f l => .fn f (Co h l)
 | x => x
def Co (h : Nat → Option Blk) : List SV → List SV
 | [] => []
 | x :: l => Me h x :: Co h l
end
mutual
def Ma : SV → Bool
 | .os _ => true
 | .p _ _ => true
 | .fn _ l => Bc l
 | x => x.closed
def Bc : List SV → Bool
 | [] => true
 | x :: l => Ma x && Bc l
end
mutual
def P7 : SV → List Nat
 | .os n => [n]
 | .p n _ => [n]
 | .fn _ l => Cp l
 | _ => []
def Cp : List SV → List Nat
 | [] => []
 | x :: l => P7 x ++ Cp l
end
def Be (s : FS) (ns : List Nat) : FS := ⟨s.t, fun n => if n ∈ ns then none else s.h n⟩
theorem Xt (h : Nat → Option Blk) : ∀ l : List SV, (Co h l).length = l.length
 | [] => by simp only [Co]
 | x :: l => by simp only [Co, List.length_cons, Xt h l]
theorem Pl (s : FS) (ns : List Nat) : Weak s (Be s ns) := ⟨fun n => .refl _, fun n b' hb => by
 simp only [Be] at hb;split at hb
 · cases hb
 · rw [hb]; simp only [Aj8];cases b' with
   | var x => exact ⟨.refl _, rfl⟩
   | row sz es => exact ⟨rfl, rfl⟩
   | rowc sz es c => exact ⟨rfl, rfl, rfl⟩
   | it l p => exact ⟨rfl, rfl⟩⟩
theorem Gn (F : Fr) (w : World) (ρ : Nat → Value) (s : FS) (ns : List Nat) : (vw F w ρ s).le (vw F w ρ (Be s ns)) := Bk fun b c ho hc => ⟨fun hb => ho (hb.imp_left fun ⟨n, x, h1, h2⟩ => by
 simp only [Be] at h1;split at h1
 · cases h1
 · exact ⟨n, x, h1, h2⟩), hc⟩
mutual
theorem Ajr (hR : RelR F N ρ s a w) {h : Nat → Option Blk} {ns : List Nat} : ∀ {x : SV} {v : Value}, Ma x = true → (∀ n ∈ tn x, s.h n = h n) → (∀ n ∈ P7 x, n ∈ ns) →
 Conc (vw F w ρ s) ρ x v → Conc (vw F w ρ (Be s ns)) ρ (Me h x) v
 | .os n, v, hl, hh, hn, h1 => by
   simp only [Me];have hhn := hh n (by simp [tn]);have hns := hn n (by simp [P7]);split
   · rename_i sz es hrow;rw [← hhn] at hrow;simp only [Conc] at h1 ⊢;rw [h1.1];have := Lb hR hrow;refine this.mono (Bk fun b c ho hc => ⟨fun hb => ho (hb.imp_left fun ⟨m, x, g1, g2⟩ => ?_), hc⟩);simp only [Be] at g1;split at g1
     · cases g1
     · rename_i hm;refine ⟨m, x, ?_, g2⟩;simp only [FS.seth];rw [if_neg fun e => hm (by rw [e]; exact hns)];exact g1
   · simp only [Conc]
 | .p n off, v, hl, hh, hn, h1 => by
   simp only [Me];have hhn := hh n (by simp [tn]);have hns := hn n (by simp [P7]);split
   · rename_i x hvar;rw [← hhn] at hvar;cases hcs : x.cells? with
     | none => simp only [Aou, Conc]
     | some cs =>
       simp only [Conc] at h1;obtain ⟨b, hb, rfl⟩ := h1;obtain ⟨b', vs, ty, fr, u, k1, k2, k3, k4, k5, k6, k7⟩ := hR.own n _ hvar;rw [k1] at hb;simp only [Value.pointer.injEq, Option.some.injEq, Addr.mk.injEq, and_true] at hb;subst hb;have hp := Conc.cells k4 hcs;simp only [Aou, Conc];refine ⟨b', 0, ⟨vs⟩, by simp, ?_, fun c hc => ?_⟩
       · unfold vw Ay;rw [if_neg]
         · unfold Em; rw [k2]
         · rintro (⟨m, y, g1, g2⟩ | g)
           · simp only [Be] at g1;split at g1
             · cases g1
             · rename_i hm;exact hm ((hR.inj m n y _ b' g1 hvar g2 (by rw [k1]; rfl)) ▸ hns)
           · exact hR.shown ⟨n, _, hvar, by rw [k1]; rfl⟩ g
       · simp only [List.getElem?_cons_zero, Option.some.injEq] at hc;subst hc;have hl : cs.length = x.width := by rw [hp.1, ← k5]; exact k6
         refine ⟨hl, ?_⟩;have e : (vs.drop (0 + 0 * x.width)).take x.width = vs := by simp [k6 ▸ List.take_length]
         rw [e, k5];exact hp.mono (Gn F w ρ s ns)
   · simp only [Conc]
 | .fn f l, v, hl, hh, hn, h1 => by
   simp only [Me, Conc] at *;obtain ⟨vs, rfl, h2⟩ := h1;exact ⟨vs, rfl, O2 hR (by simpa [Ma] using hl) (fun n hm => hh n (by simp only [tn]; exact hm)) (fun n hm => hn n (by simpa [P7] using hm)) h2⟩
 | .pv x, v, hl, _, _, h1 => B9 (Gn F w ρ s ns) rfl h1
 | .vec n cs, v, hl, _, _, h1 => B9 (Gn F w ρ s ns) rfl h1
 | .agg l, v, hl, _, _, h1 => by
   have e : Me h (.agg l) = .agg l := by simp only [Me]
   rw [e];exact B9 (Gn F w ρ s ns) (by simpa only [Ma] using hl) h1
 | .tup l, v, hl, _, _, h1 => by
   have e : Me h (.tup l) = .tup l := by simp only [Me]
   rw [e];exact B9 (Gn F w ρ s ns) (by simpa only [Ma] using hl) h1
 | .pi _ _ _ _, v, hl, _, _, h1 => B9 (Gn F w ρ s ns) rfl h1
 | .dead, v, hl, _, _, h1 => B9 (Gn F w ρ s ns) rfl h1
 | .ps _ _, v, hl, _, _, h1 => by simp [Ma, SV.closed] at hl
 | .pr _ _ _ _, v, hl, _, _, h1 => by simp [Ma, SV.closed] at hl
 | .ov _ _ _ _, v, hl, _, _, h1 => by simp [Ma, SV.closed] at hl
theorem O2 (hR : RelR F N ρ s a w) {h : Nat → Option Blk} {ns : List Nat} : ∀ {args : List SV} {vs : List Value}, Bc args = true → (∀ n ∈ A8 args, s.h n = h n) → (∀ n ∈ Cp args, n ∈ ns) →
 ConcL (vw F w ρ s) ρ args vs → ConcL (vw F w ρ (Be s ns)) ρ (Co h args) vs
 | [], vs, _, _, _, hc => by simp only [ConcL, Co] at *; exact hc
 | x :: l, vs, hl, hh, hn, hc => by
   simp only [ConcL, Co, Bc, Bool.and_eq_true, Cp, List.mem_append] at *;obtain ⟨u, us, rfl, h1, h2⟩ := hc;exact ⟨u, us, rfl, Ajr hR hl.1 (fun n hm => hh n (by simp only [A8, List.mem_append]; exact .inl hm)) (fun n hm => hn n (.inl hm)) h1, O2 hR hl.2 (fun n hm => hh n (by simp only [A8, List.mem_append]; exact .inr hm)) (fun n hm => hn n (.inr hm)) h2⟩
end
structure After (F : Fr) (N : Nat) (ρ : Nat → Value) (s : FS) (ns : List Nat) (a : Act) (w : World) (R : SV → FS → Prop) (v : Value) (w' : World) : Prop where
 grew : Grew w w'
 out : ∃ (N' : Nat) (ρ' : Nat → Value) (s' : FS) (a' : Act) (y : SV), RelR ⟨w, fun _ => False, F.out ρ (Be s ns).h, fun _ => undef, []⟩ N' ρ' s' a' w' ∧ Conc (vw ⟨w, fun _ => False, F.out ρ (Be s ns).h, fun _ => undef, []⟩ w' ρ' s') ρ' y v ∧ R y s'
theorem Ei (hm : P.follows .mixedOrders = true) {f N' : Nat} {rs : List Rv} {c : C} (hf : A9 P f = some (N', rs, c)) {args : List SV} {h : Nat → Option Blk} (hlen : args.length ≤ N') (hl : Bc args = true)
 {R : SV → FS → Prop} {Q : Df} (hQ : ∀ e s, Q e s → (e = .normal ∨ e = .ret) ∧ Wt rs R s) (hrun : ∀ F, sx (Wx P F N') c Q (mk (Dv 0 (Co h args)) []))
 (hR : RelR F N ρ s a w) (hh : ∀ n ∈ A8 args, s.h n = h n) {vs : List Value} (hc : ConcL (vw F w ρ s) ρ args vs) :
 Calls P f ⟨vs⟩ w fun e w' => ∃ v, e = .returned v ∧ After F N ρ s (Cp args) a w R v w' := by
 have hRb := hR.weak (Pl s (Cp args));have hcb := O2 hR (ns := Cp args) hl hh (fun _ h => h) hc;refine Calls.mono (Ak6 hm hf (hid := F.out ρ (Be s (Cp args)).h) (fun b hb => ?_) (by rw [Xt]; exact hlen) hcb hQ (hrun _)) fun e w' he => ?_
 · rcases hb with hb | hb
   · exact hRb.lt hb
   · exact Nat.lt_of_lt_of_le (hR.fr.hid b hb).1 hR.fr.size
 · obtain ⟨v, ρ', s', a', y, rfl, h1, h2, h3⟩ := he;exact ⟨v, rfl, ⟨h1.fr.os, h1.fr.tape, h1.fr.output, h1.fr.size, fun b hb => h1.fr.block b hb id⟩, N', ρ', s', a', y, h1, h2, h3⟩
theorem Hr {N' : Nat} {ρ' : Nat → Value} {s' : FS} {a' : Act} (hR' : RelR ⟨w, fun _ => False, F.out ρ s.h, fun _ => undef, []⟩ N' ρ' s' a' w') : (vw ⟨w, fun _ => False, F.out ρ s.h, fun _ => undef, []⟩ w' ρ' s').le (vw F w' ρ s) :=
 Bk fun b c ho hc => ⟨fun hb => ho (.inr hb), hc⟩
mutual
theorem Ajs : ∀ {x : SV}, x.closed = true → P7 x = [] ∧ Ma x = true ∧ ∀ h, Me h x = x
 | .fn f l, hc => by
   simp only [SV.closed] at hc;obtain ⟨h1, h2, h3⟩ := Cs hc;exact ⟨by simp only [P7]; exact h1, by simp only [Ma]; exact h2, fun h => by simp only [Me, h3 h]⟩
 | .pv _, hc => ⟨rfl, rfl, fun h => by simp only [Me]⟩
 | .vec _ _, hc => ⟨rfl, rfl, fun h => by simp only [Me]⟩
 | .agg _, hc => ⟨rfl, by simp only [Ma]; exact hc, fun h => by simp only [Me]⟩
 | .tup _, hc => ⟨rfl, by simp only [Ma]; exact hc, fun h => by simp only [Me]⟩
 | .pi _ _ _ _, hc => ⟨rfl, rfl, fun h => by simp only [Me]⟩
 | .dead, hc => ⟨rfl, rfl, fun h => by simp only [Me]⟩
 | .p _ _, hc => by simp [SV.closed] at hc
 | .ps _ _, hc => by simp [SV.closed] at hc
 | .pr _ _ _ _, hc => by simp [SV.closed] at hc
 | .os _, hc => by simp [SV.closed] at hc
 | .ov _ _ _ _, hc => by simp [SV.closed] at hc
theorem Cs : ∀ {args : List SV}, SV.closedL args = true → Cp args = [] ∧ Bc args = true ∧ ∀ h, Co h args = args
 | [], _ => ⟨by simp only [Cp], by simp only [Bc], fun _ => by simp only [Co]⟩
 | x :: l, hc => by
   simp only [SV.closedL, Bool.and_eq_true] at hc;obtain ⟨g1, g2, g3⟩ := Ajs hc.1;obtain ⟨h1, h2, h3⟩ := Cs hc.2;exact ⟨by simp only [Cp, g1, h1]; rfl, by simp only [Bc, g2, h2]; rfl, fun h => by simp only [Co, g3 h, h3 h]⟩
end
theorem Eu (s : FS) : Be s [] = s := by simp [Be]
theorem C0 {f : Nat} {rs : List Rv} {c : C} (hf : A9 P f = some (N, rs, c)) : T1 P f := by
 obtain ⟨fn, code, h1, h2, h3, _⟩ := Aag hf;exact ⟨fn, h1, h2, by rw [h3]; rfl⟩
theorem Au (hm : P.follows .mixedOrders = true) {f N' : Nat} {rs : List Rv} {c : C} (hf : A9 P f = some (N', rs, c)) {args : List SV} {h : Nat → Option Blk} {d : Nat} {x : SV} (hlen : args.length ≤ N')
 (hargs : SV.closedL args = true) (hx : x.closed = true) (hrun : ∀ F, sx (Wx P F N') c (Pk rs fun y _ => y = x) (mk (Dv 0 args) [])) : FunOk P f args h d x [] := by
 obtain ⟨h1, h2, h3⟩ := Cs hargs;refine ⟨C0 hf, fun F N ρ s a w hR hh vs hc => ?_⟩;refine Calls.mono (Ei hm hf (h := h) hlen h2 J9 (by rw [h3]; exact hrun) hR hh hc) fun e w' he => ?_;obtain ⟨v, rfl, hg, N'', ρ', s', a', y, hR', hy, rfl⟩ := he;rw [h1, Eu] at hR' hy;exact ⟨v, ρ, rfl, hR.grew hg, B9 (Hr hR') hx hy⟩
theorem Cn (hm : P.follows .mixedOrders = true) {f N' : Nat} {rs : List Rv} {c : C} (hf : A9 P f = some (N', rs, c)) {args : List SV} {h : Nat → Option Blk} {d : Nat} {x : SV} (hlen : args.length ≤ N')
 (hargs : Bc args = true) (hx : x.scalar = true) (hrun : ∀ F, sx (Wx P F N') c (Pk rs fun y _ => y = x) (mk (Dv 0 (Co h args)) [])) : FunOk P f args h d x [] := by
 refine ⟨C0 hf, fun F N ρ s a w hR hh vs hc => ?_⟩;refine Calls.mono (Ei hm hf (h := h) hlen hargs J9 hrun hR hh hc) fun e w' he => ?_;obtain ⟨v, rfl, hg, N'', ρ', s', a', y, hR', hy, rfl⟩ := he;exact ⟨v, ρ, rfl, hR.grew hg, Hy hx hy⟩
theorem Aac (hm : P.follows .mixedOrders = true) {f N' : Nat} {rs : List Rv} {c : C} (hf : A9 P f = some (N', rs, c)) {args : List SV} {h : Nat → Option Blk} {d : Nat} {sz : Nat} {es : List (List PV)} (hlen : args.length ≤ N')
 (hargs : Bc args = true) (hx : SV.closedL args = true ∨ ∀ c ∈ es, c.all PV.flat = true) (hrun : ∀ F, sx (Wx P F N') c (Pk rs fun y g => ∃ n, y = .os n ∧ g n = some (.row sz es)) (mk (Dv 0 (Co h args)) [])) :
 FunOk P f args h d (.os d) [.new d (.row sz es)] := by
 refine ⟨C0 hf, fun F N ρ s a w hR hh vs hc => ?_⟩;refine Calls.mono (Ei hm hf (h := h) hlen hargs J9 hrun hR hh hc) fun e w' he => ?_;obtain ⟨v, rfl, hg, N'', ρ', s', a', y, hR', hy, n, rfl, hn⟩ := he;simp only [Conc] at hy;obtain ⟨base, cap, g1, g2, g3, g4, g5⟩ := hR'.own n _ hn;have hown : ∀ b, Ch (ρ' n) = some b → w.heap.size ≤ b ∧ b < w'.heap.size := fun b hb => by
  have ho : Cd ρ' s'.h b := ⟨n, _, hn, hb⟩
  exact ⟨(hR'.may b ho).resolve_right id, hR'.lt ho⟩
 have hnew := hR.adopt hg d (.row sz es) (ρ' n) hown fun hV => by
  refine ⟨base, cap, by rw [A0]; exact g1, g2, g3, g4, fun hcap => ?_⟩;obtain ⟨b, vs', ty, fr, k1, k2, k3, k4, k5, k6⟩ := g5 hcap;refine ⟨b, vs', ty, fr, k1, k2, k3, k4, k5, fun i c hi => ?_⟩;rcases hx with hx | hx
  · obtain ⟨e1, _, _⟩ := Cs hx;rw [e1, Eu] at hR' k6;refine (k6 i c hi).mono (Bk fun b' c' ho hc' => ⟨fun hb' => ?_, hc'⟩);rcases hb' with ⟨m, z, hm1, hm2⟩ | hb'
    · by_cases hmd : m = d
      · subst hmd;rw [A0] at hm2;exact ho (.inl ⟨n, _, hn, hm2⟩)
      · rw [Bq hmd] at hm2;simp only [FS.seth, FS.kill, hmd, if_false] at hm1;obtain ⟨z', hz', _⟩ := Option.map_eq_some_iff.1 hm1;exact ho (.inr (.inl ⟨m, z', hz', hm2⟩))
    · exact ho (.inr (.inr hb'))
  · exact Lp (hx c (List.mem_of_getElem? hi)) (k6 i c hi)
 refine ⟨v, _, rfl, hnew.1, ?_⟩;simp only [Conc];exact ⟨by rw [A0]; exact hy.1, hy.2⟩
theorem Aps (hm : P.follows .mixedOrders = true) {f N' : Nat} {rs : List Rv} {c : C} (hf : A9 P f = some (N', rs, c)) {args : List SV} {h : Nat → Option Blk} {d : Nat} {z : SV} {sz : Nat} {es : List (List PV)} (hlen : args.length ≤ N')
 (hargs : Bc args = true) (hx : SV.closedL args = true ∨ ∀ c ∈ es, c.all PV.flat = true) (hzs : z.scalar = true) (hrun : ∀ F, sx (Wx P F N') c (Pk rs fun y g => ∃ n, y = .tup [.os n, z] ∧ g n = some (.row sz es)) (mk (Dv 0 (Co h args)) [])) :
 FunOk P f args h d (.tup [.os d, z]) [.new d (.row sz es)] := by
 refine ⟨C0 hf, fun F N ρ s a w hR hh vs hc => ?_⟩;refine Calls.mono (Ei hm hf (h := h) hlen hargs J9 hrun hR hh hc) fun e w' he => ?_;obtain ⟨v, rfl, hg, N'', ρ', s', a', y, hR', hy, n, rfl, hn⟩ := he;simp only [Conc, ConcL] at hy;obtain ⟨tv, rfl, u1, us1, rfl, hy, u2, us2, rfl, hz2, rfl⟩ := hy;obtain ⟨base, cap, g1, g2, g3, g4, g5⟩ := hR'.own n _ hn;have hown : ∀ b, Ch (ρ' n) = some b → w.heap.size ≤ b ∧ b < w'.heap.size := fun b hb => by
  have ho : Cd ρ' s'.h b := ⟨n, _, hn, hb⟩
  exact ⟨(hR'.may b ho).resolve_right id, hR'.lt ho⟩
 have hnew := hR.adopt hg d (.row sz es) (ρ' n) hown fun hV => by
  refine ⟨base, cap, by rw [A0]; exact g1, g2, g3, g4, fun hcap => ?_⟩;obtain ⟨b, vs', ty, fr, k1, k2, k3, k4, k5, k6⟩ := g5 hcap;refine ⟨b, vs', ty, fr, k1, k2, k3, k4, k5, fun i c hi => ?_⟩;rcases hx with hx | hx
  · obtain ⟨e1, _, _⟩ := Cs hx;rw [e1, Eu] at hR' k6;refine (k6 i c hi).mono (Bk fun b' c' ho hc' => ⟨fun hb' => ?_, hc'⟩);rcases hb' with ⟨m, z, hm1, hm2⟩ | hb'
    · by_cases hmd : m = d
      · subst hmd;rw [A0] at hm2;exact ho (.inl ⟨n, _, hn, hm2⟩)
      · rw [Bq hmd] at hm2;simp only [FS.seth, FS.kill, hmd, if_false] at hm1;obtain ⟨z', hz', _⟩ := Option.map_eq_some_iff.1 hm1;exact ho (.inr (.inl ⟨m, z', hz', hm2⟩))
    · exact ho (.inr (.inr hb'))
  · exact Lp (hx c (List.mem_of_getElem? hi)) (k6 i c hi)
 refine ⟨_, _, rfl, hnew.1, ?_⟩;simp only [Conc, ConcL];exact ⟨_, rfl, u1, _, rfl, ⟨by rw [A0]; exact hy.1, hy.2⟩, u2, _, rfl, Hy hzs hz2, rfl⟩
end Go.Proofs.YthhomcfimdkfhaaGreat.Fw
namespace Go.Proofs.YthhomcfimdkfhaaGreat.Fw
open Go.RowKit
theorem At3 {α : Type} (I : α → FS) (J : α → Prop) (m : α → Nat) (x : α) (Q : Df) (s) : Ahd I J m x Q .normal s = ∃ y, J y ∧ m y < m x ∧ Wk s (I y) := (rfl)
theorem At4 {α : Type} (I : α → FS) (J : α → Prop) (m : α → Nat) (x : α) (Q : Df) (s i) : Ahd I J m x Q (.exit i) s = Q (.exit i) s := (rfl)
theorem At2 {α : Type} (I : α → FS) (J : α → Prop) (m : α → Nat) (x : α) (Q : Df) (s) : Ahd I J m x Q .ret s = Q .ret s := (rfl)
theorem Ax0 (rs R s) : Pk rs R .ret s = Ld s rs fun l => R (one l) s.h := (rfl)
theorem Am5 (s K) : Ld s [] K = K [] := (rfl)
theorem Ax1 (s n rs K) : Ld s (.t n :: rs) K = Ld s rs fun l => K (s.t n :: l) := (rfl)
def Agx (s : FS) (rs : List Rv) (K : List SV → Prop) : KK := fun x u => u = [] ∧ Ld s rs fun l => K (x :: l)
theorem Ax2 (s a size ag rs K) : Ld s (.c a size ag :: rs) K = Il s.h size ag (s.t a) (Agx s rs K) := (rfl)
theorem Ael (s rs K x u) : Agx s rs K x u = (u = [] ∧ Ld s rs fun l => K (x :: l)) := (rfl)
theorem A2j (x) : one [x] = x := (rfl)
theorem A2i (x y l) : one (x :: y :: l) = .tup (x :: y :: l) := (rfl)
theorem Aq7 (k) : Dv k [] = [] := (rfl)
theorem Ale (k x l) : Dv k (x :: l) = (k, x) :: Dv (k + 1) l := (rfl)
theorem Apb (s) : Acs s [] = True := (rfl)
theorem Aj4 (s n x l) : Acs s ((n, x) :: l) = (Imp (s.t n) x ∧ Acs s l) := (rfl)
theorem Apc (s) : S5 s [] = True := (rfl)
theorem Aj6 (s n l) : S5 s ((n, none) :: l) = S5 s l := (rfl)
theorem Aj5 (s n b l) : S5 s ((n, some b) :: l) = (Aj8 (s.h n) b ∧ S5 s l) := (rfl)
theorem Aj7 (x y) : Aj8 (some x) y = Als x y := (rfl)
theorem Ape (a b c d) : Als (.row a b) (.row c d) = (a = c ∧ b = d) := (rfl)
theorem Apd (x y) : Als (.var x) (.var y) = (Imp x y ∧ x.width = y.width) := (rfl)
theorem Ao9 (x) : Imp x x = True := eq_true (Imp.refl x)
theorem At1 (n m : Nat) (l : List Nat) : (n ∈ m :: l) = (n = m ∨ n ∈ l) := propext List.mem_cons
theorem Wz (l : List UInt8) : (Bb l).length = l.length := by simp [Bb]
theorem Aa3 {n : Int} (h : 0 ≤ n ∧ n < 4294967296) : IntKind.u32.wrap n = n := by
 simp [IntKind.wrap, IntKind.signed, IntKind.bits]; omega
theorem Al0 {n : Int} (h : 0 ≤ n ∧ n < 18446744073709551616) : IntKind.u64.wrap n = n := by
 simp [IntKind.wrap, IntKind.signed, IntKind.bits]; omega
theorem Al1 {n : Int} (h : -9223372036854775808 ≤ n ∧ n < 9223372036854775808) : IntKind.i64.wrap n = n := by
 simp [IntKind.wrap, IntKind.signed, IntKind.bits]; omega
mutual
theorem Ada (n : Nat) : ∀ {x : SV}, x.closed = true → x.kill n = x
 | .pv _, _ => by simp only [SV.kill]
 | .vec _ _, _ => by simp only [SV.kill]
 | .agg l, h => by simp only [SV.closed] at h; simp only [SV.kill, G8 n h]
 | .tup l, h => by simp only [SV.closed] at h; simp only [SV.kill, G8 n h]
 | .pi _ _ _ _, _ => by simp only [SV.kill]
 | .fn f l, h => by simp only [SV.closed] at h; simp only [SV.kill, G8 n h]
 | .dead, _ => by simp only [SV.kill]
 | .p _ _, h => by simp [SV.closed] at h
 | .ps _ _, h => by simp [SV.closed] at h
 | .pr _ _ _ _, h => by simp [SV.closed] at h
 | .os _, h => by simp [SV.closed] at h
 | .ov _ _ _ _, h => by simp [SV.closed] at h
theorem G8 (n : Nat) : ∀ {l : List SV}, SV.closedL l = true → SV.killL n l = l
 | [], _ => by simp only [SV.killL]
 | x :: l, h => by
   simp only [SV.closedL, Bool.and_eq_true] at h;simp only [SV.killL, Ada n h.1, G8 n h.2]
end
theorem Aa {P : Program} {E : Env} {f : Nat} {args : List SV} {h : Nat → Option Blk} {d : Nat} {x : SV} {u : List HU} {K : KK} (hf : FunOk P f args h d x u) (hk : K x u) (hE : E.call = Agc P := by rfl) : M5 E f args h d K := ⟨x, u, .inl (hE ▸ .inl hf), hk⟩
theorem Hm {P : Program} {r : Option Nat} {X : Frs} {N f : Nat} {args : List SV} {h : Nat → Option Blk} {d : Nat} {x : SV} {u : List HU} {K : KK} (hf : DeepOk P f args h d x u) (hk : K x u) : M5 (Mf P r X N) f args h d K := ⟨x, u, .inr hf, hk⟩
theorem Qs {P : Program} {E : Env} {f : Nat} {args : List SV} {h : Nat → Option Blk} {d : Nat} {x : SV} {K : KK} (hf : Yo P f args h x) (hk : K x []) (hE : E.call = Agc P := by rfl) : M5 E f args h d K := ⟨x, [], .inl (hE ▸ .inr ⟨rfl, hf⟩), hk⟩
theorem As5 (w : World) : RelR ⟨w, fun _ => False, fun _ => False, fun _ => undef, []⟩ 0 (fun _ => undef) ⟨fun _ => .dead, fun _ => none⟩ ⟨#[], []⟩ w :=
 ⟨⟨rfl, rfl, rfl, Nat.le_refl _, fun _ _ _ => rfl, fun _ h => h.elim⟩, fun b ⟨n, x, h, _⟩ => by simp at h, fun n x h => by simp at h, fun n m x y b h => by simp at h, fun n => by simp only [Conc], rfl, rfl⟩
theorem FunOk.law {P : Program} {f : Nat} {args : List SV} {h d} (hf : FunOk P f args h d (.pv (.b true)) []) (hc : SV.closedL args = true) {w : World} {vs : List Value} {ρ : Nat → Value} (hv : ConcL (Ay w fun _ => False) ρ args vs) :
 Calls P f ⟨vs⟩ w fun e w' => e = .returned (.bool true) ∧ Below w.heap.size w w' := by
 have ht : A8 args = [] := by
  cases hx : A8 args with
  | nil => rfl
  | cons n l =>
    have : SV.killL n args = args := by
     have key : ∀ (l : List SV), SV.closedL l = true → ∀ n, SV.killL n l = l := fun l hl n => G8 n hl;exact key args hc n
    exact absurd (by rw [hx]; simp) (Kh this)
 have hV : (Ay w fun _ => False).le (vw ⟨w, fun _ => False, fun _ => False, fun _ => undef, []⟩ w (fun _ => undef) ⟨fun _ => .dead, fun _ => none⟩) :=
  Bk fun b c _ hb => ⟨fun hh => hh.elim (fun ⟨n, x, h, _⟩ => by simp at h) id, hb⟩
 refine Calls.mono (hf.2 _ 0 _ _ _ w (As5 w) (by rw [ht]; simp) vs (Iv hV hc hv)) fun e w' he => ?_;obtain ⟨v, ρ', rfl, hR, hy⟩ := he;exact ⟨by rw [Qd hy], hR.fr.os, hR.fr.tape, hR.fr.output, hR.fr.size, fun b hb => hR.fr.block b hb id⟩
end Go.Proofs.YthhomcfimdkfhaaGreat.Fw
namespace Go.Proofs.YthhomcfimdkfhaaGreat.Fw
open Go.RowKit
variable (E : Env)
def brK (a : C) (Q : Df) (s : FS) : Prop := sx E a Q s
def gdK (k : Kd) (x : List Opd) (d : Nat) (l : List I) (Q : Df) (s : FS) : Prop := body E k x d s (Ss E (some d) l Q s)
def skK (d : Option Nat) (l : List I) (Q : Df) (s : FS) : Prop := sxL E l Q (s.apply d (.tup []) [])
def gdA (D : List Nat) (c : Nat) (k : Kd) (x : List Opd) (d : Nat) (l : List (I × Nat × List Nat)) (Q : Df) (s : FS) : Prop := body E k x d s (J3 E D c (some d) l Q s)
def skA (D : List Nat) (c : Nat) (d : Option Nat) (l : List (I × Nat × List Nat)) (Q : Df) (s : FS) : Prop := J3 E D c d l Q s (.tup []) []
def pkK (K : KK) (x : SV) : Prop := K x []
theorem De (a Q s) : brK E a Q s = sx E a Q s := (rfl)
theorem Dd (k x d l Q s) : gdK E k x d l Q s = body E k x d s (Ss E (some d) l Q s) := (rfl)
theorem Dc (d l Q s) : skK E d l Q s = sxL E l Q (s.apply d (.tup []) []) := (rfl)
theorem Db (D c k x d l Q s) : gdA E D c k x d l Q s = body E k x d s (J3 E D c (some d) l Q s) := (rfl)
theorem Da (D c d l Q s) : skA E D c d l Q s = J3 E D c d l Q s (.tup []) [] := (rfl)
theorem C7 (K x) : pkK K x = K x [] := (rfl)
theorem Azh (p : Prop) [Decidable p] (a b Q s) : Aj1 E (.pv (.b (decide p))) a b Q s = ((p → brK E a Q s) ∧ (¬ p → brK E b Q s)) := by
 by_cases h : p <;> simp [Aj1, brK, h]
theorem Akf (p : Prop) [Decidable p] (D c k x d l Q s) : Ih E D c (.pv (.b (decide p))) true k x (some d) l Q s = ((p → gdA E D c k x d l Q s) ∧ (¬ p → skA E D c (some d) l Q s)) := by
 by_cases h : p <;> simp [Ih, Fa, gdA, skA, h]
attribute [go_sem] Apm Apn Aqn Asm Amc Aif Aie Aj9 Aka Akb Akc Ase Asf Asd Aui Auh Auj Axa Ask Aj0 Ae8 Aqo Asn Amd Aih Aig Akd Ake Akg Akh A2z A2y A2x Atx Aof Aok Ajm Aem Aen Aoh Aoi Aog Aoj Aw6 Aw8 Al9 Asi Aw7 Asg Ash Aw9 Azg Azi Avz Av0 Auq Aur Aup Aut Aus Apu Apv Akj Apw Akl Akk A60 A4k A63 Azy f_p A61 A62 A64 A4m A4l Azz Au2 Azu Azv Amz Ags Ahm A4o A6c A4p A4c Ay6 At6 Ajy Ae4 Ajz Ae6 Ae5 A6p A34 A6s k_p A6q A6r A6u A36 A35 A6v Azd Aud Azb Azc Au4 Ap2 Ala Aft Ak4 A7h A0v A5d A5r A5s A0y A5q A7i A44 A5t A5l A7f A5n A0z A0x A49 A5u A5e A48 A47 A7j A5i A5j A5h A5g A5k A5f A5w A7g A0w A6k Ayz Aye Ayf A29 A3l A3m Ay1 A3k Alb Aqu A6l A20 A3n A3g Ap3 Aoy Aq3 A6i Awz A3h A25 Aoc Ay2 A3a A24 A23 A6m A6z A4h A4i A3d Azm Azn Api A30 A31 A32 A6o A3x A3y A3z Aua Aon Aoo At0 Aop Ajn Avb Aqi Amj A6a A19 A6b A2a A1t Axv A1u Axw Awx Ar4 Asz Amv A7d A4z A40 A7e A0c Avo Ayi A15 Ail A16 Amg A17 Asp Asq A6d A12 A13 Aso App Au8 Aq9 Avy A6y A4d A4e Azr Auw A65 e_s A66 A3p A06 A05 A3e A4b A3c A3b A3f An9 Aoa Ay0 A6j A6n Att An8 A43 A42 A0s A0j A0l A0k A0r A0m A0n A0o A0p A0q A0g A0f A0e A0u A0t A4f Azt A4g Aww Ar3 A01 Avw A58 z_s A59 As4 Az1 Aod Azk Azl Azw Au0 Ap0 Axu Axt Axs Axr Asy A3s Axp Axo A4a A39 if_true if_false Option.map_some Option.bind_some Nat.le_refl and_self List.append_nil List.nil_append List.cons_append true_and and_true true_or or_true Bool.false_and Bool.true_and Bool.false_or Bool.or_false Bool.and_false Bool.and_true Bool.not_true Bool.not_false Int.toNat_zero List.drop_zero Int.toNat_natCast At1 Nat.zero_add Nat.add_zero decide_true decide_false At3 At4 At2 Ax0 Am5 Ax1 Ax2 Ael A2j A2i Aq7 Ale Apb Aj4 Apc Aj6 Aj5 Aj7 Ape Apd Ao9 Option.getD_some Option.getD_none true_implies false_implies Azh Akf Aa3 Al0 Al1 not_true_eq_false not_false_eq_true
attribute [go_sem_proc] Nat.reduceEqDiff Nat.reduceSub Nat.reduceLeDiff Nat.reduceAdd Int.reduceEq Int.reduceLT Int.reduceLE
attribute [go_sem_proc ↓] reduceIte
end Go.Proofs.YthhomcfimdkfhaaGreat.Fw
namespace Go.Proofs.YthhomcfimdkfhaaGreat.Fw
open Go.RowKit
def Cy (n : Nat) (f : Nat → PV) : List PV := (List.range n).map f
theorem Ee (n f) : (Cy n f).length = n := by simp [Cy]
theorem H8 {n k : Nat} (h : k < n) (f) : (Cy n f)[k]? = some (f k) := by simp [Cy, h]
theorem Ald {n k : Nat} (h : k < n) (f d) : (Cy n f).getD k d = f k := by rw [List.getD_eq_getElem?_getD, H8 h]; rfl
theorem M8 {n : Nat} {f g : Nat → PV} (h : ∀ i, i < n → f i = g i) : Cy n f = Cy n g := by
 unfold Cy; exact List.map_congr_left fun i hi => h i (by simpa using hi)
theorem Adj {n a m : Nat} (h : a + m ≤ n) (f g) : splice (Cy n f) a (Cy m g) = Cy n fun i => if a ≤ i ∧ i < a + m then g (i - a) else f i := by
 apply List.ext_getElem?;intro k;unfold splice;rw [Ee];simp only [List.getElem?_append, List.length_append, List.length_take, Ee, List.getElem?_take, List.getElem?_drop];rw [Nat.min_eq_left (by omega)];by_cases h1 : k < a + m
 · rw [if_pos h1];by_cases h2 : k < a
   · rw [if_pos h2, if_pos h2, H8 (by omega), H8 (by omega), if_neg (by omega)]
   · rw [if_neg h2, H8 (by omega), H8 (by omega), if_pos (by omega)]
 · rw [if_neg h1];by_cases h3 : k < n
   · rw [H8 (by omega), H8 (by omega), if_neg (by omega)];congr 2; omega
   · rw [List.getElem?_eq_none (by rw [Ee]; omega), List.getElem?_eq_none (by rw [Ee]; omega)]
theorem Aq6 (f) : Cy 1 f = [f 0] := rfl
theorem Aot {n k : Nat} (h : k < n) (f K) : LoadK (some (Cy n f)) k 1 false K = K (.pv (f k)) [] := by
 simp only [LoadK, Ee, Ik, Ald h];simp; omega
def Ds {α : Type} (a : Nat → α) (k : Nat) (x : α) : Nat → α := fun i => if i = k then x else a i
theorem Wf {n k : Nat} (h : k < n) (f c) : splice (Cy n f) k [c] = Cy n (Ds f k c) := by
 have := Adj (a := k) (m := 1) (n := n) (by omega) f fun _ => c;rw [Aq6] at this;rw [this];exact M8 fun i hi => by
  unfold Ds;by_cases e : i = k
  · subst e; simp
  · rw [if_neg (by omega), if_neg e]
abbrev Vc := Nat → Nat
def vE (a : Vc) : List PV := Cy 8 fun i => .i .u32 (a i : Int)
def tE (t : Nat → Vc) : List PV := Cy 64 fun i => .i .u32 (t (i / 8) (i % 8) : Int)
def wE (w : Nat → Bool) : List PV := Cy 8 fun i => .b (w i)
def vEq (a b : Vc) : Prop := ∀ i, i < 8 → a i = b i
instance (a b : Vc) : Decidable (vEq a b) := inferInstanceAs (Decidable (∀ i, i < 8 → a i = b i))
theorem K3 {a b : Vc} (h : ∀ i, i < 8 → a i = b i) : vE a = vE b := M8 fun i hi => by rw [h i hi]
theorem Bl (a) : (vE a).length = 8 := Ee ..
theorem Q1 (a) : (wE a).length = 8 := Ee ..
theorem At5 {k : Nat} (h : k < 8) (a K) : LoadK (some (vE a)) k 1 false K = K (.pv (.i .u32 (a k))) [] := Aot h _ _
theorem Aim {k : Nat} (h : k < 8) (a : Vc) (n : Nat) : splice (vE a) k [.i .u32 (n : Int)] = vE (Ds a k n) := by
 unfold vE; rw [Wf h];exact M8 fun i hi => by unfold Ds; split <;> rfl
theorem W9 {k : Nat} (h : k < 8) (a : Nat → Bool) (n : Bool) : splice (wE a) k [.b n] = wE (Ds a k n) := by
 unfold wE; rw [Wf h];exact M8 fun i hi => by unfold Ds; split <;> rfl
theorem Arz : ([.i .u32 0, .i .u32 0, .i .u32 0, .i .u32 0, .i .u32 0, .i .u32 0, .i .u32 0, .i .u32 0] : List PV) = vE fun _ => 0 := rfl
theorem Ary : ([.b false, .b false, .b false, .b false, .b false, .b false, .b false, .b false] : List PV) = wE fun _ => false := rfl
theorem Ax4 : List.replicate 8 (PV.i .u32 0) = vE fun _ => 0 := rfl
theorem Ax3 : List.replicate 8 (PV.b false) = wE fun _ => false := rfl
theorem Ax5 : List.replicate 64 (PV.i .u32 0) = tE fun _ _ => 0 := rfl
def iE (f : Nat → Int) : List PV := Cy 8 fun i => .i .i64 (f i)
theorem Ru (a) : (iE a).length = 8 := Ee ..
theorem Xa {k : Nat} (h : k < 8) (a : Nat → Int) (n : Int) : splice (iE a) k [.i .i64 n] = iE (Ds a k n) := by
 unfold iE; rw [Wf h];exact M8 fun i hi => by unfold Ds; split <;> rfl
theorem Ar0 : ([.i .i64 0, .i .i64 0, .i .i64 0, .i .i64 0, .i .i64 0, .i .i64 0, .i .i64 0, .i .i64 0] : List PV) = iE fun _ => 0 := rfl
theorem Ax7 : List.replicate 8 (PV.i .i64 0) = iE fun _ => 0 := rfl
theorem Z1 (c cs K) : LoadK (some (c :: cs)) 0 1 false K = K (.pv c) [] := by
 simp [LoadK, Ik]
theorem Ahf (c cs n m ag K) : LoadK (some (c :: cs)) (n + 1) m ag K = LoadK (some cs) n m ag K := by
 simp only [LoadK, List.length_cons];have e : Ik (c :: cs) (n + 1) m ag = Ik cs n m ag := by cases ag <;> simp [Ik]
 rw [e];congr 1;exact propext ⟨fun h => by omega, fun h => by omega⟩
theorem Ajq {a cs : List PV} {k m ag K} (h : a.length ≤ k) : LoadK (some (a ++ cs)) k m ag K = LoadK (some cs) (k - a.length) m ag K := by
 simp only [LoadK, List.length_append];have e1 : (k + m ≤ a.length + cs.length) = (k - a.length + m ≤ cs.length) := propext ⟨fun _ => by omega, fun _ => by omega⟩;rw [e1];have e : Ik (a ++ cs) k m ag = Ik cs (k - a.length) m ag := by
  cases ag with
  | true => simp only [Ik]; rw [List.drop_append, List.drop_eq_nil_of_le h]; rfl
  | false =>
    simp only [Ik];rw [List.getD_eq_getElem?_getD, List.getD_eq_getElem?_getD, List.getElem?_append_right h]
 rw [e]
theorem E7 (a K) : LoadK (some (vE a)) 0 8 true K = K (.vec 8 (vE a)) [] := by
 simp only [LoadK, Bl, Ik];rw [List.drop_zero, List.take_of_length_le (by rw [Bl]; omega)]; simp
theorem Aos {k : Nat} (h : 8 ≤ k) (a cs m ag K) : LoadK (some (vE a ++ cs)) k m ag K = LoadK (some cs) (k - 8) m ag K := by
 rw [Ajq (by rw [Bl]; omega), Bl]
theorem Vj {cs : List PV} {m : Nat} (h : cs.length = m) (K) : LoadK (some cs) 0 m true K = K (.vec m cs) [] := by
 simp only [LoadK, Ik];rw [List.drop_zero, List.take_of_length_le (by omega)]; simp; omega
theorem Aqq (a b : Nat) : max (a : Int) (b : Int) = ((max a b : Nat) : Int) := by omega
theorem Ayy {p q : Prop} (h : p) : (p ∧ q) = q := propext ⟨fun x => x.2, fun x => ⟨h, x⟩⟩
theorem A4t {a b : Int} (h : a < b) : decide (a < b) = true := decide_eq_true h
theorem A4u {a b : Int} (h : ¬ a < b) : decide (a < b) = false := decide_eq_false h
theorem A4v {a b : Int} (h : a ≤ b) : decide (a ≤ b) = true := decide_eq_true h
theorem A4w {a b : Int} (h : ¬ a ≤ b) : decide (a ≤ b) = false := decide_eq_false h
theorem A4x {a b : Int} (h : a = b) : decide (a = b) = true := decide_eq_true h
theorem A4y {a b : Int} (h : ¬ a = b) : decide (a = b) = false := decide_eq_false h
theorem Afq {a b : List UInt8} (h : Bb a = Bb b) : a = b := by
 induction a generalizing b with
 | nil => cases b with
   | nil => rfl
   | cons y b => simp [Bb] at h
 | cons x a ih => cases b with
   | nil => simp [Bb] at h
   | cons y b =>
     simp only [Bb, List.map_cons, List.cons.injEq, PV.i.injEq, true_and, and_true] at h;rw [ih h.2]; congr 1;exact UInt8.toNat_inj.1 (by have := h.1; omega)
theorem Aqs (l K) : Wo (Bb l) K = K (.pv (.s l)) [] := by
 unfold Wo;exact propext ⟨fun ⟨m, e, h⟩ => by rw [Afq e]; exact h, fun h => ⟨l, rfl, h⟩⟩
theorem Qe {n : Nat} {a b : List PV} (h : a = b) : Imp (.vec n a) (.vec n b) := h ▸ Imp.refl _
theorem Aum {k : IntKind} {a b : Int} (h : a = b) : Imp (.pv (.i k a)) (.pv (.i k b)) = True := eq_true (h ▸ Imp.refl _)
def U0 (n m : Nat) : List (Nat × SV) → List (Nat × SV)
 | [] => []
 | (j, x) :: l => (j, x.ren n m) :: U0 n m l
def N2 (n m : Nat) : List (Nat × Option Blk) → List (Nat × Option Blk)
 | [] => []
 | (j, some x) :: l => (if j = m then (j, none) else (j, some (x.ren n m))) :: N2 n m l
 | (j, none) :: l => (j, none) :: N2 n m l
theorem Ahg (n m k) : ∀ t : List (Nat × SV), lk .dead k (U0 n m t) = (lk .dead k t).ren n m
 | [] => by simp [U0, lk, SV.ren]
 | (j, x) :: l => by
   simp only [U0, lk, Ahg n m k l];split <;> rfl
theorem Th (n m k) (hk : k ≠ m) : ∀ t : List (Nat × Option Blk), lk none k (N2 n m t) = (lk none k t).map (Blk.ren n m)
 | [] => by simp [N2, lk]
 | (j, some x) :: l => by
   by_cases hj : j = m
   · subst hj; simp [N2, lk, hk, Th n j k hk l]
   · simp only [N2, hj, if_false, lk, Th n m k hk l];split <;> rfl
 | (j, none) :: l => by
   simp only [N2, lk, Th n m k hk l];split <;> simp
theorem Ax8 (t h n m) (hne : n ≠ m) : (mk t h).ren n m = mk (U0 n m t) ((n, none) :: (m, (lk none n h).map (Blk.ren n m)) :: N2 n m h) := by
 have e1 : (fun k => ((mk t h).t k).ren n m) = (mk (U0 n m t) ((n, none) :: (m, (lk none n h).map (Blk.ren n m)) :: N2 n m h)).t := by
  funext k; simp only [mk, Ahg]
 have e2 : ((mk t h).ren n m).h = (mk (U0 n m t) ((n, none) :: (m, (lk none n h).map (Blk.ren n m)) :: N2 n m h)).h := by
  funext k;simp only [FS.ren, mk, lk];by_cases h1 : k = m
  · subst h1; rw [if_pos rfl, if_neg (Ne.symm hne), if_pos rfl]
  · rw [if_neg h1];by_cases h2 : k = n
    · subst h2; simp
    · rw [if_neg h2, if_neg h2, if_neg h1, Th n m k h1]
 show FS.mk _ _ = FS.mk _ _;congr 1
theorem Ew {t : List (Nat × SV)} {h : List (Nat × Option Blk)} {s' : FS} (n m : Nat) (hne : n ≠ m) (hm : lk none m h = none) (hw : Wk (mk (U0 n m t) ((n, none) :: (m, (lk none n h).map (Blk.ren n m)) :: N2 n m h)) s') : Wk (mk t h) s' :=
 .ren n m hne hm (by rw [Ax8 _ _ _ _ hne]; exact hw)
theorem T5 {t : List (Nat × SV)} {h : List (Nat × Option Blk)} {s' : FS} (k n sz : Nat) {z : Nat} (ht : lk .dead k t = .pv (.sl true z [])) (hs : 0 < sz) (hw : Wk (mk ((k, .os n) :: P9 n t) ((n, some (.row sz [])) :: Ks n h)) s') : Wk (mk t h) s' :=
 .nil k n z sz ht hs (by rw [Ahm, Ags, Amz]; exact hw)
theorem Ad {α : Type} {I : α → FS} {J : α → Prop} {m : α → Nat} {x : α} {s : FS} (y : α) (T : List (Nat × SV)) (H : List (Nat × Option Blk)) (hI : I y = mk T H) (hJ : J y) (hm : m y < m x) (h1 : Acs s T) (h2 : S5 s H) : ∃ y, J y ∧ m y < m x ∧ Wk s (I y) :=
 ⟨y, hJ, hm, hI ▸ Am h1 h2⟩
theorem Ad0 {k : Nat} (f g : Vc) (n : Nat) (hn : n = f k) : vE (Ds (fun i => if i < k then f i else g i) k n) = vE fun i => if i < k + 1 then f i else g i := by
 subst hn;exact K3 fun i hi => by unfold Ds; grind
theorem Ad1 (f g : Vc) {k : Nat} (h : 8 ≤ k) : (vE fun i => if i < k then f i else g i) = vE f := K3 fun i hi => by rw [if_pos (by omega)]
theorem Yv (f g : Vc) {k : Nat} (h : k = 0) : (vE fun i => if i < k then f i else g i) = vE g := K3 fun i hi => by rw [if_neg (by omega)]
theorem A6f (n m x) : SV.ren n m (.pv x) = .pv x := (rfl)
theorem A2e (n m k x) : SV.ren n m (.vec k x) = .vec k x := (rfl)
theorem A6g (n m a b c d) : SV.ren n m (.pi a b c d) = .pi a b c d := (rfl)
theorem r_p (n m k o) : SV.ren n m (.p k o) = if k = n then .p m o else if k = m then .dead else .p k o := (rfl)
theorem A6h (n m k) : SV.ren n m (.os k) = if k = n then .os m else if k = m then .dead else .os k := (rfl)
theorem A2g (n m l) : SV.ren n m (.agg l) = .agg (SV.renL n m l) := (rfl)
theorem A2f (n m l) : SV.ren n m (.tup l) = .tup (SV.renL n m l) := (rfl)
theorem Ayc (n m) : SV.renL n m [] = [] := (rfl)
theorem As7 (n m x l) : SV.renL n m (x :: l) = SV.ren n m x :: SV.renL n m l := (rfl)
theorem Ax9 (n m x) : Blk.ren n m (.var x) = .var (x.ren n m) := (rfl)
theorem Aya (n m a b) : Blk.ren n m (.row a b) = .row a b := (rfl)
theorem Am6 (n m) : U0 n m [] = [] := (rfl)
theorem Aiw (n m j x l) : U0 n m ((j, x) :: l) = (j, x.ren n m) :: U0 n m l := (rfl)
theorem Am7 (n m) : N2 n m [] = [] := (rfl)
theorem Aiy (n m j x l) : N2 n m ((j, some x) :: l) = (if j = m then (j, none) else (j, some (x.ren n m))) :: N2 n m l := (rfl)
theorem Aix (n m j l) : N2 n m ((j, none) :: l) = (j, none) :: N2 n m l := (rfl)
theorem Azx (p : List PV → Prop) : (∀ c, c ∈ ([] : List (List PV)) → p c) = True := by simp
theorem Au1 (x l) (p : List PV → Prop) : (∀ c, c ∈ x :: l → p c) = (p x ∧ ∀ c, c ∈ l → p c) := by simp
theorem A4n (d : Nat) (p : Nat → Prop) : (∃ n, SV.os d = SV.os n ∧ p n) = p d := propext ⟨fun ⟨n, e, h⟩ => by cases e; exact h, fun h => ⟨d, rfl, h⟩⟩
theorem Aap (l : List UInt8) (n : Nat) : (Bb l).take n = Bb (l.take n) := by simp [Bb]
theorem Aaq (l : List UInt8) (n : Nat) : (Bb l).drop n = Bb (l.drop n) := by simp [Bb]
theorem Sx (a b : List UInt8) : Bb a ++ Bb b = Bb (a ++ b) := by simp [Bb]
attribute [go_sem] Aaq Aap Sx List.take_length Azx Au1 A4n List.length_cons List.length_nil Ru Xa Ar0 Ax7 A6f A2e A6g r_p A6h A2g A2f Ayc As7 Ax9 Aya Am6 Aiw Am7 Aiy Aix Z1 Ahf E7 Aos Aum Int.natCast_zero At5 Aim W9 Arz Ary Ax4 Ax3 Ax5 Bl Q1 Aqq Ayy A4t A4u A4v A4w A4x A4y Aqs Wz Nat.mul_one Bool.false_xor Bool.true_xor
section slices
variable (E : Env)
theorem A6t (n m z a b) : SV.kill n (.ov m z a b) = if n = m then .dead else .ov m z a b := (rfl)
theorem Auc (n a b c) : Blk.kill n (.rowc a b c) = .rowc a b c := (rfl)
theorem A5m (n x d s K) : body E (.eqn n) x d s K = Al d s.h (.eqn n) (Bu s x) K := (rfl)
theorem A5p (x d s K) : body E .cap x d s K = Al d s.h .cap (Bu s x) K := (rfl)
theorem A5o (n x d s K) : body E (.cpy n) x d s K = Al d s.h (.cpy n) (Bu s x) K := (rfl)
theorem A5v (a b z x d s K) : body E (.apz a b z) x d s K = Al d s.h (.apz a b z) (Bu s x) K := (rfl)
theorem A46 (n a b x d s K) : body E (.slv n a b) x d s K = Al d s.h (.slv n a b) (Bu s x) K := (rfl)
theorem A45 (n x d s K) : body E (.slx n) x d s K = Al d s.h (.slx n) (Bu s x) K := (rfl)
theorem Aob (d h n f z es K) : Al d h (.eqn n) [.pv (.sl f z es)] K = Vv n (some es) K := (rfl)
theorem Ap6 (n es K) : Vv n (some es) K = ∀ b : Bool, (es ≠ [] → b = false) → K (.pv (.b (n ^^ b))) [] := (rfl)
theorem A3j (d h n K) : Al d h .cap [.os n] K = V7 (h n) n K := (rfl)
theorem Aqr (sz es n K) : V7 (some (.row sz es)) n K = ∀ c : Nat, es.length ≤ c → K (.pv (.i .i64 c)) [.upd n (.rowc sz es c)] := (rfl)
theorem Aqe (sz es) : E2 (some (.row sz es)) = some es := (rfl)
theorem Aqf (sz es c) : E2 (some (.rowc sz es c)) = some es := (rfl)
theorem Am2 (sz es) : D6 (some (.row sz es)) = sz := (rfl)
theorem Am3 (sz es c) : D6 (some (.rowc sz es c)) = sz := (rfl)
theorem Akv (h n z a b) : Gt h (.ov n z a b) = (E2 (h n)).map fun es => (es.take b).drop a := (rfl)
theorem Aku (h x) : Gt h (.pv x) = C6 h (.pv x) := (rfl)
theorem Akw (h n) : Gt h (.os n) = C6 h (.os n) := (rfl)
theorem Aqc (h n z a b) : Im h (.ov n z a b) = if D6 (h n) = z then z else 0 := (rfl)
theorem Aqb (h x) : Im h (.pv x) = Iu h (.pv x) := (rfl)
theorem Aqd (h n) : Im h (.os n) = Iu h (.os n) := (rfl)
theorem A3i (d h sz x y K) : Al d h (.cpy sz) [x, y] K = M1 h sz x y K := (rfl)
theorem Ak0 (h sz n z a b y K) : M1 h sz (.ov n z a b) y K = (z = sz ∧ Lw (h n) n sz a (some b) (Gt h y) (Im h y) K) := (rfl)
theorem Aqj (sz' es n sz lo hi ys z K) : Lw (some (.row sz' es)) n sz lo (some hi) (some ys) z K = (sz = sz' ∧ (ys = [] ∨ z = sz) ∧
 K (.pv (.i .i64 ((min ys.length (hi - lo) : Nat) : Int))) [.upd n (.row sz (es.take lo ++ ys.take (hi - lo) ++ es.drop (lo + min ys.length (hi - lo))))]) := (rfl)
theorem A3o (d h a b z x k m K) : Al d h (.apz a b z) [x, .pv (.i k m)] K = M9 h d a b z m x K := (rfl)
theorem Alf (h d a b z m n y lo hi K) : M9 h d a b z m (.ov n y lo hi) K = (lo = 0 ∧ R4 (h n) d a b z hi m K) := (rfl)
theorem Aq8 (sz' es c d sz bytes z hi m K) : R4 (some (.rowc sz' es c)) d sz bytes z hi m K = (sz = sz' ∧ 0 < m ∧ (c : Int) < hi + m ∧ (hi + m) * bytes ≤ 70368744177664 ∧ K (.os d) [.new d (.row sz (es.take hi ++ List.replicate m.toNat z))]) := (rfl)
theorem A22 (d h sz a b x l K) : Al d h (.slv sz a b) (x :: l) K = Ou h sz a b x l K := (rfl)
theorem Aiq (h sz a b n l K) : Ou h sz a b (.os n) l K = Ais n sz b (E2 (h n)) (D6 (h n)) (G4 a 0 l) K := (rfl)
theorem Axm (n sz hi es z i l K) : Ais n sz hi (some es) z (some (i, l)) K = (sz = z ∧ Air n sz es.length i (G4 hi es.length l) K) := (rfl)
theorem Axl (n sz len i j l K) : Air n sz len i (some (j, l)) K = (0 ≤ i ∧ i ≤ j ∧ j ≤ len ∧ K (.ov n sz i.toNat j.toNat) []) := (rfl)
theorem A21 (d h sz x k j K) : Al d h (.slx sz) [x, .pv (.i k j)] K = Ut h d sz x j [.pv (.i k j)] K := (rfl)
theorem Aip (h d sz n j l K) : Ut h d sz (.os n) j l K = Uu (h n) n d sz j (Pr (.os n) h sz false true false l (C6 h (.os n)) K) K := (rfl)
theorem Amo (sz' es c n d sz j T K) : Uu (some (.rowc sz' es c)) n d sz j T K = (sz = sz' ∧ es.length ≤ j ∧ j ≤ c ∧ ∀ g : List (List PV), g.length = j.toNat - es.length → (∀ x ∈ g, x.length = sz) → K (.os d) [.del n, .new d (.row sz (es ++ g))]) := (rfl)
attribute [go_sem] A6t Auc A5m A5p A5o A5v A46 A45 Aob Ap6 A3j Aqr Aqe Aqf Am2 Am3 Akv Aku Akw Aqc Aqb Aqd A3i Ak0 Aqj A3o Alf Aq8 A22 Aiq Axm Axl A21 Aip Amo Nat.sub_zero
end slices
section own
variable {P : Program} {F : Fr} {N : Nat} {ρ : Nat → Value} {s : FS} {a : Act} {w w' : World} {K : KK} {V : View}
theorem Acu {u : List HU} : ∀ (ts : List Nat) (s : FS), s.hup (ts.map HU.del ++ u) = (Be s ts).hup u
 | [], s => by simp [Be]
 | n :: ts, s => by
   simp only [List.map_cons, List.cons_append, FS.hup];rw [Acu ts];congr 1;refine FS.ext' (fun _ => rfl) (fun m => ?_);simp only [Be, FS.seth, List.mem_cons];by_cases h1 : m ∈ ts
   · simp [h1]
   · by_cases h2 : m = n <;> simp [h1, h2]
def P4 (ρ : Nat → Value) (h : Nat → Option Blk) (ts : List Nat) (b : Nat) : Prop := ∃ n ∈ ts, ∃ blk, h n = some blk ∧ Ch (ρ n) = some b
theorem RelR.swapin (hR : RelR F N ρ s a w) (ts : List Nat) (d : Nat) (blk : Blk) (p : Value)
 (hos : w'.os = w.os) (htape : w'.tape = w.tape) (hout : w'.output = w.output) (hsize : w.heap.size ≤ w'.heap.size) (hblock : ∀ b, b < w.heap.size → ¬ P4 ρ s.h ts b → w'.heap[b]? = w.heap[b]?)
 (hid : ∀ b, Ch p = some b → (w.heap.size ≤ b ∧ b < w'.heap.size) ∨ P4 ρ s.h ts b)
 (hown : Own w' (vw F w' (Fw.upd ρ d p) (((Be s ts).kill d).seth d (some blk))) (Fw.upd ρ d p) d blk) :
 RelR F N (Fw.upd ρ d p) (((Be s ts).kill d).seth d (some blk)) a w' ∧ (vw F w ρ s).le (vw F w' (Fw.upd ρ d p) (((Be s ts).kill d).seth d (some blk))) := by
 have hs : ∀ m x, (((Be s ts).kill d).seth d (some blk)).h m = some x → (m = d ∧ x = blk) ∨ (m ≠ d ∧ m ∉ ts ∧ ∃ y, s.h m = some y ∧ x = y.kill d) := by
  intro m x hm;simp only [Be, FS.seth, FS.kill] at hm;by_cases e : m = d
  · simp only [e, if_true] at hm; cases hm; exact .inl ⟨e, rfl⟩
  · simp only [e, if_false] at hm;by_cases e2 : m ∈ ts
    · simp [e2] at hm
    · simp only [e2, if_false] at hm;cases hy : s.h m with
      | none => rw [hy] at hm; cases hm
      | some y => rw [hy] at hm; cases hm; exact .inr ⟨e, e2, y, rfl, rfl⟩
 have mo : ∀ b, P4 ρ s.h ts b → Cd ρ s.h b := fun b ⟨n, _, y, h1, h2⟩ => ⟨n, y, h1, h2⟩
 have key : ∀ b, Cd (Fw.upd ρ d p) (((Be s ts).kill d).seth d (some blk)).h b → Cd ρ s.h b ∨ (w.heap.size ≤ b ∧ b < w'.heap.size) := by
  rintro b ⟨m, x, hm, hb⟩;rcases hs m x hm with ⟨rfl, rfl⟩ | ⟨e1, e2, y, hy, rfl⟩
  · rw [A0] at hb;rcases hid b hb with h | h
    · exact .inr h
    · exact .inl (mo b h)
  · rw [Bq e1] at hb; exact .inl ⟨m, y, hy, hb⟩
 have hV : (vw F w ρ s).le (vw F w' (Fw.upd ρ d p) (((Be s ts).kill d).seth d (some blk))) := Bk fun b c ho hc => by
  have hlt := Lx hc;refine ⟨fun hb => ?_, ?_⟩
  · rcases hb with hb | hb
    · rcases key b hb with h | h
      · exact ho (.inl h)
      · omega
    · exact ho (.inr hb)
  · rw [Dq (hblock b hlt fun h => ho (.inl (mo b h)))]; exact hc
 refine ⟨⟨⟨hos.trans hR.fr.os, htape.trans hR.fr.tape, hout.trans hR.fr.output, Nat.le_trans hR.fr.size hsize, fun b hb hm => ?_, hR.fr.hid⟩, fun b hb => ?_, fun m x hm => ?_, fun m k x y b hm hk hbm hbk => ?_, fun m => ?_, hR.size, hR.defers⟩, hV⟩
 · rw [hblock b (Nat.lt_of_lt_of_le hb hR.fr.size) fun h => by
    rcases hR.may b (mo b h) with h1 | h1
    · omega
    · exact hm h1]
   exact hR.fr.block b hb hm
 · rcases key b hb with h | h
   · exact hR.may b h
   · exact .inl (Nat.le_trans hR.fr.size h.1)
 · rcases hs m x hm with ⟨rfl, rfl⟩ | ⟨e1, e2, y, hy, rfl⟩
   · exact hown
   · have ho := hR.own m y hy;exact (ho.congr (V' := vw F w ρ s) (w' := w') (fun _ _ x => x) (fun b hb => hblock b (ho.lt hb) fun ⟨n, hn, z, hz, hb'⟩ => e2 (by rw [hR.inj m n y z b hy hz hb hb']; exact hn))).kill hV e1
 · rcases hs m x hm with ⟨rfl, rfl⟩ | ⟨e1, e2, z, hz, rfl⟩
   · rcases hs k y hk with ⟨rfl, rfl⟩ | ⟨f1, f2, u, hu, rfl⟩
     · rfl
     · exfalso; rw [A0] at hbm; rw [Bq f1] at hbk;rcases hid b hbm with h | ⟨n, hn, q, hq, hb'⟩
       · have := (hR.own k u hu).lt hbk; omega
       · exact f2 (by rw [hR.inj k n u q b hu hq hbk hb']; exact hn)
   · rcases hs k y hk with ⟨rfl, rfl⟩ | ⟨f1, f2, u, hu, rfl⟩
     · exfalso; rw [A0] at hbk; rw [Bq e1] at hbm;rcases hid b hbk with h | ⟨n, hn, q, hq, hb'⟩
       · have := (hR.own m z hz).lt hbm; omega
       · exact e2 (by rw [hR.inj m n z q b hz hq hbm hb']; exact hn)
     · rw [Bq e1] at hbm; rw [Bq f1] at hbk;exact hR.inj m k z u b hz hu hbm hbk
 · show Conc _ _ ((s.t m).kill d) _;exact (hR.tmps m).kill hV
theorem Ak5 (hm : P.follows .mixedOrders = true) {f N' : Nat} {rs : List Rv} {c : C} (hf : A9 P f = some (N', rs, c)) {F' : Fr} {s0 : FS} {vs : List Value} (h0 : F'.defs = []) (hok : F'.ok F'.w0) (hm0 : ∀ b, F'.M0 b → b < F'.w0.heap.size)
 (hR : RelR F' N' ρ s0 { tmps := (⟨vs⟩ : Array Value) ++ Array.replicate (N' - (⟨vs⟩ : Array Value).size) undef, defers := [] } w) {R : SV → (Nat → Option Blk) → Prop} (hrun : sx (Wx P F' N') c (Pk rs R) s0) :
 Calls P f ⟨vs⟩ w fun e w' => ∃ v ρ' s' a' y, e = .returned v ∧ RelR F' N' ρ' s' a' w' ∧ Conc (vw F' w' ρ' s') ρ' y v ∧ R y s'.h :=
 Afp hm hf h0 hok hm0 hR (R := fun y s => R y s.h) hrun
def Ii (h : Nat → Option Blk) : List Nat → List (Nat × Option Blk)
 | [] => []
 | n :: l => (n, h n) :: Ii h l
theorem Ach (h : Nat → Option Blk) (n : Nat) : ∀ ts : List Nat, lk none n (Ii h ts) = if n ∈ ts then h n else none
 | [] => by simp [Ii, lk]
 | m :: ts => by
   simp only [Ii, lk, Ach h n ts, List.mem_cons];by_cases e : n = m
   · subst e; simp
   · simp [e]
theorem Aad (hm : P.follows .mixedOrders = true) {f N' : Nat} {rs : List Rv} {c : C} (hf : A9 P f = some (N', rs, c)) {args : List SV} {h : Nat → Option Blk} {d : Nat} {sz : Nat} {es : List (List PV)} (hlen : args.length ≤ N')
 (hts : Cp args = A8 args)
 (hrun : ∀ F, sx (Wx P F N') c (Pk rs fun y g => ∃ n, y = .os n ∧ g n = some (.row sz es)) (mk (Dv 0 args) (Ii h (Cp args)))) :
 FunOk P f args h d (.os d) ((Cp args).map .del ++ [.new d (.row sz es)]) := by
 refine ⟨C0 hf, fun F N ρ s a w hR hh vs hc => ?_⟩;rw [hts];rw [hts] at hrun;generalize htt : A8 args = ts at *
 let F' : Fr := ⟨w, P4 ρ s.h ts, F.out ρ (Be s ts).h, fun _ => undef, []⟩
 have hvl : vs.length = args.length := by
  clear hrun hlen hts hh htt
  induction args generalizing vs with
  | nil => simp only [ConcL] at hc; subst hc; rfl
  | cons x l ih =>
    simp only [ConcL] at hc;obtain ⟨v, us, rfl, _, h⟩ := hc;simp [ih _ h]
 have hlk : ∀ n, (mk (Dv 0 args) (Ii h ts)).h n = if n ∈ ts then s.h n else none := fun n => by
  simp only [mk, Ach];split
  · rename_i hn; rw [hh n hn]
  · rfl
 have how : ∀ b, Cd ρ (mk (Dv 0 args) (Ii h ts)).h b ↔ P4 ρ s.h ts b := fun b => by
  constructor
  · rintro ⟨n, x, h1, h2⟩;rw [hlk] at h1; split at h1
    · rename_i hn; exact ⟨n, hn, x, h1, h2⟩
    · cases h1
  · rintro ⟨n, hn, x, h1, h2⟩;exact ⟨n, x, by rw [hlk, if_pos hn]; exact h1, h2⟩
 have hoth : ∀ b, Cd ρ (Be s ts).h b ↔ ∃ n, n ∉ ts ∧ ∃ x, s.h n = some x ∧ Ch (ρ n) = some b := fun b => by
  constructor
  · rintro ⟨n, x, h1, h2⟩;simp only [Be] at h1; split at h1
    · cases h1
    · rename_i hn; exact ⟨n, hn, x, h1, h2⟩
  · rintro ⟨n, hn, x, h1, h2⟩;exact ⟨n, x, by simp only [Be, if_neg hn]; exact h1, h2⟩
 have hview : Ay w (F'.out ρ (mk (Dv 0 args) (Ii h ts)).h) = vw F w ρ s := by
  show Ay w _ = Ay w _;congr 1;funext b;refine propext ⟨fun hb => ?_, fun hb => ?_⟩
  · rcases hb with hb | hb
    · obtain ⟨n, _, x, h1, h2⟩ := (how b).1 hb; exact .inl ⟨n, x, h1, h2⟩
    · rcases hb with hb | hb
      · obtain ⟨n, _, x, h1, h2⟩ := (hoth b).1 hb; exact .inl ⟨n, x, h1, h2⟩
      · exact .inr hb
  · rcases hb with ⟨n, x, h1, h2⟩ | hb
    · by_cases hn : n ∈ ts
      · exact .inl ((how b).2 ⟨n, hn, x, h1, h2⟩)
      · exact .inr (.inl ((hoth b).2 ⟨n, hn, x, h1, h2⟩))
    · exact .inr (.inr hb)
 have hR0 : RelR F' N' ρ (mk (Dv 0 args) (Ii h ts)) { tmps := (⟨vs⟩ : Array Value) ++ Array.replicate (N' - (⟨vs⟩ : Array Value).size) undef, defers := [] } w := by
  refine ⟨⟨rfl, rfl, rfl, Nat.le_refl _, fun _ _ _ => rfl, fun b hb => ⟨?_, fun hmi => ?_⟩⟩, fun b hb => .inr ((how b).1 hb), fun n x hx => ?_, fun n m x y b hx hy hbx hby => ?_, fun n => ?_, by simp; omega, rfl⟩
  · rcases hb with hb | hb
    · obtain ⟨n, _, x, h1, h2⟩ := (hoth b).1 hb; exact (hR.own n x h1).lt h2
    · exact Nat.lt_of_lt_of_le (hR.fr.hid b hb).1 hR.fr.size
  · obtain ⟨n, hn, x, h1, h2⟩ := hmi;rcases hb with hb | hb
    · obtain ⟨m, hm, y, g1, g2⟩ := (hoth b).1 hb;exact hm (by rw [hR.inj m n y x b g1 h1 g2 h2]; exact hn)
    · exact hR.shown ⟨n, x, h1, h2⟩ hb
  · rw [hview];rw [hlk] at hx; split at hx
    · exact hR.own n x hx
    · cases hx
  · rw [hlk] at hx hy;split at hx
    · split at hy
      · exact hR.inj n m x y b hx hy hbx hby
      · cases hy
    · cases hx
  · rw [hview];have := I4 0 n hc;simp only [Nat.zero_le, if_true, Nat.sub_zero] at this;simp only [mk];have he : ((⟨vs⟩ : Array Value) ++ Array.replicate (N' - (⟨vs⟩ : Array Value).size) undef).getD n undef = (vs[n]?).getD undef := by
     rw [Array.getD_eq_getD_getElem?];by_cases hn : n < vs.length
     · rw [Array.getElem?_append_left (by simpa using hn)]; simp
     · rw [Array.getElem?_append_right (by simpa using hn)];rw [List.getElem?_eq_none (by omega)];simp only [Array.getElem?_replicate, Option.getD_none];split <;> rfl
    have hN := Ts hf;unfold Fr.val;by_cases hb : n < N8
    · rw [if_pos hb, he]; exact this
    · rw [if_neg hb];rw [List.getElem?_eq_none (by omega)] at this; exact this
 refine Calls.mono (Ak5 hm hf rfl hR0.fr (fun b ⟨n, hn, x, h1, h2⟩ => (hR.own n x h1).lt h2) hR0 (hrun F')) fun e w' he => ?_;obtain ⟨v, ρ', s', a', y, rfl, hR', hy, n, rfl, hn⟩ := he;simp only [Conc] at hy;have ho : ∀ b, Ch (ρ' n) = some b → Cd ρ' s'.h b := fun b hb => ⟨n, _, hn, hb⟩
 have hid : ∀ b, Ch (ρ' n) = some b → (w.heap.size ≤ b ∧ b < w'.heap.size) ∨ P4 ρ s.h ts b := fun b hb => by
  rcases hR'.may b (ho b hb) with h1 | h1
  · exact .inl ⟨h1, hR'.lt (ho b hb)⟩
  · exact .inr h1
 have hres := hR.swapin (w' := w') ts d (.row sz es) (ρ' n) hR'.fr.os hR'.fr.tape hR'.fr.output hR'.fr.size hR'.fr.block hid (by
  obtain ⟨base, cap, g1, g2, g3, g4, g5⟩ := hR'.own n _ hn;refine ⟨base, cap, by rw [A0]; exact g1, g2, g3, g4, fun hcap => ?_⟩;obtain ⟨b, vs', ty, fr, k1, k2, k3, k4, k5, k6⟩ := g5 hcap;refine ⟨b, vs', ty, fr, k1, k2, k3, k4, k5, fun i c hi => (k6 i c hi).mono (Bk fun b' c' hno hc' => ⟨fun hb' => hno ?_, hc'⟩)⟩;rcases hb' with ⟨m, z, hm1, hm2⟩ | hb'
  · simp only [Be, FS.seth, FS.kill] at hm1;by_cases hmd : m = d
    · subst hmd;rw [A0] at hm2;exact .inl ⟨n, _, hn, hm2⟩
    · rw [Bq hmd] at hm2;simp only [hmd, if_false] at hm1;by_cases hmt : m ∈ ts
      · simp [hmt] at hm1
      · simp only [hmt, if_false] at hm1;obtain ⟨z', hz', _⟩ := Option.map_eq_some_iff.1 hm1;exact .inr (.inl ((hoth b').2 ⟨m, hmt, z', hz', hm2⟩))
  · exact .inr (.inr hb'))
 have e1 : s.hup (List.map HU.del ts ++ [HU.new d (Blk.row sz es)]) = ((Be s ts).kill d).seth d (some (.row sz es)) := by rw [Acu]; rfl
 refine ⟨v, Fw.upd ρ d (ρ' n), rfl, by rw [e1]; exact hres.1, ?_⟩;simp only [Conc];exact ⟨by rw [A0]; exact hy.1, hy.2⟩
theorem Acz (hm : P.follows .mixedOrders = true) {f N' : Nat} {rs : List Rv} {c : C} (hf : A9 P f = some (N', rs, c)) {args : List SV} {h : Nat → Option Blk} {d : Nat} {sz : Nat} {es : List (List PV)} (hlen : args.length ≤ N')
 (hargs : Bc args = true) (hx : SV.closedL args = true ∨ ∀ c ∈ es, c.all PV.flat = true) (hrun : ∀ F, sx (Wx P F N') c (Pk rs fun y g => (∃ n, y = .os n ∧ g n = some (.row sz es)) ∨ ∃ z, y = .pv (.sl true z []) ∧ es = [] ∧ 0 < sz) (mk (Dv 0 (Co h args)) [])) :
 FunOk P f args h d (.os d) [.new d (.row sz es)] := by
 refine ⟨C0 hf, fun F N ρ s a w hR hh vs hc => ?_⟩;refine Calls.mono (Ei hm hf (h := h) hlen hargs J9 hrun hR hh hc) fun e w' he => ?_;obtain ⟨v, rfl, hg, N'', ρ', s', a', y, hR', hy, hyy⟩ := he;rcases hyy with ⟨n, rfl, hn⟩ | ⟨z, rfl, rfl, hsz⟩
 case inr =>
  simp only [Conc] at hy;have hv : ∃ base, v = .slice base 0 0 := by
   cases hy with
   | sl full sz es b cap cs bl off arr hcap hfull hsz ha hcs hel =>
     have := hfull rfl;simp at this;subst this;exact ⟨b, rfl⟩
  obtain ⟨base, rfl⟩ := hv;obtain ⟨h1, _⟩ := (hR.grew hg).new (Grew.refl w') d (.row sz []) (.slice base 0 0) (fun b hb => by cases base <;> simp [Ch] at hb) (fun V' _ => ⟨base, 0, by rw [A0]; rfl, Nat.le_refl _, hsz, by simp, fun h => absurd rfl h⟩);exact ⟨_, _, rfl, h1, G7⟩
 simp only [Conc] at hy;obtain ⟨base, cap, g1, g2, g3, g4, g5⟩ := hR'.own n _ hn;have hown : ∀ b, Ch (ρ' n) = some b → w.heap.size ≤ b ∧ b < w'.heap.size := fun b hb => by
  have ho : Cd ρ' s'.h b := ⟨n, _, hn, hb⟩
  exact ⟨(hR'.may b ho).resolve_right id, hR'.lt ho⟩
 have hnew := hR.adopt hg d (.row sz es) (ρ' n) hown fun hV => by
  refine ⟨base, cap, by rw [A0]; exact g1, g2, g3, g4, fun hcap => ?_⟩;obtain ⟨b, vs', ty, fr, k1, k2, k3, k4, k5, k6⟩ := g5 hcap;refine ⟨b, vs', ty, fr, k1, k2, k3, k4, k5, fun i c hi => ?_⟩;rcases hx with hx | hx
  · obtain ⟨e1, _, _⟩ := Cs hx;rw [e1, Eu] at hR' k6;refine (k6 i c hi).mono (Bk fun b' c' ho hc' => ⟨fun hb' => ?_, hc'⟩);rcases hb' with ⟨m, z, hm1, hm2⟩ | hb'
    · by_cases hmd : m = d
      · subst hmd;rw [A0] at hm2;exact ho (.inl ⟨n, _, hn, hm2⟩)
      · rw [Bq hmd] at hm2;simp only [FS.seth, FS.kill, hmd, if_false] at hm1;obtain ⟨z', hz', _⟩ := Option.map_eq_some_iff.1 hm1;exact ho (.inr (.inl ⟨m, z', hz', hm2⟩))
    · exact ho (.inr (.inr hb'))
  · exact Lp (hx c (List.mem_of_getElem? hi)) (k6 i c hi)
 refine ⟨v, _, rfl, hnew.1, ?_⟩;simp only [Conc];exact ⟨by rw [A0]; exact hy.1, hy.2⟩
theorem Au3 (x : PV) (p : Nat → Prop) : (∃ n, SV.pv x = SV.os n ∧ p n) = False := by simp
theorem Ap1 (n : Nat) (q : Prop) : (∃ z, SV.os n = SV.pv (.sl true z []) ∧ q) = False := by simp
theorem Az2 (z0 : Nat) (q : Prop) : (∃ z, SV.pv (.sl true z0 []) = SV.pv (.sl true z []) ∧ q) = q := propext ⟨fun ⟨_, _, h⟩ => h, fun h => ⟨z0, rfl, h⟩⟩
theorem Afd (h) : Ii h [] = [] := (rfl)
theorem Acx (h n l) : Ii h (n :: l) = (n, h n) :: Ii h l := (rfl)
theorem Aow (n) : P7 (.os n) = [n] := (rfl)
theorem Aov (x) : P7 (.pv x) = [] := (rfl)
attribute [go_sem] Au3 Ap1 Az2 Afd Acx false_or or_false Aow Aov Awv Avq List.cons_append List.nil_append
end own
end Go.Proofs.YthhomcfimdkfhaaGreat.Fw
namespace Go.Proofs.YthhomcfimdkfhaaGreat.Fw
open Go.RowKit
variable {P : Program} {F : Fr} {N M : Nat} {ρ : Nat → Value} {s : FS} {a b : Act} {w w' : World} {V : View} {X : Frs}
def sh : Nat := 1000001
def gh : Nat := 1000000
attribute [irreducible] sh gh
def Az8 (g : Int) : Option Code := if g = 0 then none else if g = 1 then some .ret else some (.exit (g - 2).toNat)
def A2d (fn : Nat) (tm : Array Value) (qs : Array Tmp) (as bd : Code) (D : Nat) (st : LoopState) (pe : Option Code) : Obj := .loop { state := st, pending := pe, fn, tmps := tm, params := qs, assign := as, body := bd, defers := D }
def A6w (F : Fr) (a : Act) (w0 : World) (B : Nat) (l : Nat) (o : LoopState → Option Code → Obj) (g : Int) : Fr :=
 ⟨w0.putObj l (o (if g = 0 then .ready else .done) (Az8 g)), fun b => F.M0 b ∨ (F.w0.heap.size ≤ b ∧ b < B), F.hid, fun n => if n = gh then .int .i64 g else F.val a (n - sh), []⟩
structure ItCtx (P : Program) (N : Nat) (ps : List Nat) (ca cb : C) (l : Nat) (XI : Frs) : Prop where
 ctx : ∃ (F : Fr) (a : Act) (w0 : World) (B fn D : Nat) (qs : Array Tmp) (as bd : Code),
  (XI = fun F' => ∃ g : Int, 0 ≤ g ∧ F' = A6w F a w0 B l (A2d fn a.tmps qs as bd D) g) ∧ Bv P N as = some ca ∧ Bv P N bd = some cb ∧ qs.toList = ps ∧ (∀ p ∈ ps, p < N ∧ p < N8) ∧
  a.tmps.size = N ∧ B ≤ l ∧ l < w0.heap.size ∧ ¬ F.M0 l
theorem Yc : ∀ {l : List SV} {vs : List Value}, ConcL V ρ l vs → vs.length = l.length
 | [], vs, h => by simp only [ConcL] at h; subst h; rfl
 | x :: l, vs, h => by
   simp only [ConcL] at h;obtain ⟨v, us, rfl, _, h⟩ := h;simp [Yc h]
end Go.Proofs.YthhomcfimdkfhaaGreat.Fw
namespace Go.Proofs.YthhomcfimdkfhaaGreat.Fw
open Go.RowKit
variable {P : Program} {F : Fr} {N M : Nat} {ρ : Nat → Value} {s : FS} {a b : Act} {w w' : World} {V : View} {X : Frs}
end Go.Proofs.YthhomcfimdkfhaaGreat.Fw
namespace Go.Proofs.YthhomcfimdkfhaaGreat.Fw
open Go.RowKit
theorem Axz (rs R s) : Aru rs R .ret s = Wt rs R s := (rfl)
theorem Gm {T : List (Nat × SV)} {H : List (Nat × Option Blk)} {s' : FS} (n : Nat) {sz : Nat} {es : List (List PV)} (hn : lk none n H = some (.row sz es)) (h : Wk (mk (Aaf n (.sl false sz es) T) (N5 n (.sl false sz es) H)) s') : Wk (mk T H) s' :=
 .frz n sz es hn (by rw [Apu]; exact h)
attribute [go_sem] Axz List.reverse_cons List.reverse_nil
end Go.Proofs.YthhomcfimdkfhaaGreat.Fw
namespace Go.Proofs.YthhomcfimdkfhaaGreat.Fw
open Go.RowKit
variable {P : Program} {F : Fr} {N : Nat} {ρ ρ' : Nat → Value} {s : FS} {a : Act} {w w' : World} {V V' : View}
end Go.Proofs.YthhomcfimdkfhaaGreat.Fw
namespace Go.Proofs.YthhomcfimdkfhaaGreat.Fw
open Go.RowKit
section
variable {E : Env}
theorem A5a (x d s K) : body E .rgs x d s K = Al d s.h .rgs (Bu s x) K := (rfl)
theorem A5c (x d s K) : body E .nxs x d s K = Al d s.h .nxs (Bu s x) K := (rfl)
theorem A5b (x d s K) : body E .r2s x d s K = Al d s.h .r2s (Bu s x) K := (rfl)
end
theorem A26 (d h l K) : Al d h .rgs [.pv (.s l)] K = K (.p d 0) [.new d (.it l 0)] := (rfl)
theorem A28 (d h n K) : Al d h .nxs [.p n 0] K = Ve (h n) n K := (rfl)
theorem A27 (d h k n K) : Al d h .r2s [.pv (.i k n)] K = K (.pv (.s (Vx n))) [] := (rfl)
theorem A3q {l : List UInt8} {pos : Nat} (h : pos < l.length) (n K) : Ve (some (.it l pos)) n K = K (.tup [.pv (.b true), .pv (.i .i64 pos), .pv (.i .i32 (Qn l pos).1)]) [.upd n (.it l (pos + (Qn l pos).2))] := if_pos h
theorem A3r {l : List UInt8} {pos : Nat} (h : ¬ pos < l.length) (n K) : Ve (some (.it l pos)) n K = K (.tup [.pv (.b false)]) [] := if_neg h
attribute [go_sem] A2w Ajj Ajk Ajl
attribute [go_sem] A5a A5c A5b A26 A28 A27 A3q A3r
end Go.Proofs.YthhomcfimdkfhaaGreat.Fw
namespace Go.Proofs.YthhomcfimdkfhaaGreat.Fw
open Go.RowKit
variable {P : Program} {F : Fr} {N : Nat} {ρ : Nat → Value} {s : FS} {a : Act} {w : World} {V : View} {π : Nat → Nat}
mutual
def SV.rn (π : Nat → Nat) : SV → SV
 | .p m o => .p (π m) o
 | .ps m o => .ps (π m) o
 | .pr m s i o => .pr (π m) s i o
 | .os m => .os (π m)
 | .ov m z a b => .ov (π m) z a b
 | .agg l => .agg (SV.rnL π l)
 | .tup l => .tup (SV.rnL π l)
 | .fn f l => .fn f (SV.rnL π l)
 | x => x
def SV.rnL (π : Nat → Nat) : List SV → List SV
 | [] => []
 | x :: l => SV.rn π x :: SV.rnL π l
end
def Blk.rn (π : Nat → Nat) : Blk → Blk
 | .var x => .var (x.rn π)
 | b => b
def HU.rn (π : Nat → Nat) : HU → HU
 | .new n b => .new (π n) (b.rn π)
 | .upd n b => .upd (π n) (b.rn π)
 | .del n => .del (π n)
 | .frz n x => .frz (π n) x
 | .set t h => .set (fun k => (t k).rn π) (fun n => (h (π n)).map (Blk.rn π))
def FS.rn (s : FS) (π : Nat → Nat) : FS := ⟨fun k => (s.t k).rn π, fun n => (s.h (π n)).map (Blk.rn π)⟩
mutual
theorem T7 (π : Nat → Nat) : ∀ x : SV, (x.rn π).width = x.width
 | .agg l => by simp only [SV.rn, SV.width]; exact W0 π l
 | .pv _ => rfl
 | .vec _ _ => rfl
 | .tup _ => rfl
 | .p _ _ => rfl
 | .ps _ _ => rfl
 | .pr _ _ _ _ => rfl
 | .pi _ _ _ _ => rfl
 | .os _ => rfl
 | .ov _ _ _ _ => rfl
 | .fn _ _ => rfl
 | .dead => rfl
theorem W0 (π : Nat → Nat) : ∀ l : List SV, SV.widthL (SV.rnL π l) = SV.widthL l
 | [] => rfl
 | x :: l => by simp only [SV.rnL, SV.widthL, T7 π x, W0 π l]
end
mutual
theorem Conc.rn (hπ : ∀ n, π (π n) = n) : ∀ {x : SV} {v}, Conc V ρ x v → Conc V (fun n => ρ (π n)) (x.rn π) v
 | .pv x, v, h => by simp only [SV.rn, Conc] at *; exact h
 | .vec n cs, v, h => by simp only [SV.rn, Conc] at *; exact h
 | .agg l, v, h => by simp only [SV.rn, Conc] at *; obtain ⟨vs, a, b⟩ := h; exact ⟨vs, a, Cells.rn hπ b⟩
 | .tup l, v, h => by simp only [SV.rn, Conc] at *; obtain ⟨vs, a, b⟩ := h; exact ⟨vs, a, ConcL.rn hπ b⟩
 | .p m off, v, h => by simp only [SV.rn, Conc, hπ] at *; exact h
 | .ps m off, v, h => by simp only [SV.rn, Conc, hπ] at *; exact h
 | .pr m sz i off, v, h => by simp only [SV.rn, Conc, hπ] at *; exact h
 | .pi sz es i off, v, h => by simp only [SV.rn, Conc] at *; exact h
 | .os m, v, h => by simp only [SV.rn, Conc, hπ] at *; exact h
 | .ov m z a b, v, h => by simp only [SV.rn, Conc, hπ] at *; exact h
 | .fn f cap, v, h => by simp only [SV.rn, Conc] at *; obtain ⟨vs, a, b⟩ := h; exact ⟨vs, a, ConcL.rn hπ b⟩
 | .dead, v, h => by simp only [SV.rn, Conc]
theorem ConcL.rn (hπ : ∀ n, π (π n) = n) : ∀ {l : List SV} {vs}, ConcL V ρ l vs → ConcL V (fun n => ρ (π n)) (SV.rnL π l) vs
 | [], vs, h => by simp only [SV.rnL, ConcL] at *; exact h
 | x :: l, vs, h => by simp only [SV.rnL, ConcL] at *; obtain ⟨u, us, a, b, c⟩ := h; exact ⟨u, us, a, Conc.rn hπ b, ConcL.rn hπ c⟩
theorem Cells.rn (hπ : ∀ n, π (π n) = n) : ∀ {l : List SV} {vs}, Cells V ρ l vs → Cells V (fun n => ρ (π n)) (SV.rnL π l) vs
 | [], vs, h => by simp only [SV.rnL, Cells] at *; exact h
 | x :: l, vs, h => by
   simp only [SV.rnL, Cells] at *;obtain ⟨u, us, a, b, c, d, e⟩ := h;exact ⟨u, us, a, Conc.rn hπ b, by rw [T7]; exact c, d, Cells.rn hπ e⟩
end
mutual
theorem Am4 (hπ : ∀ n, π (π n) = n) : ∀ x : SV, (x.rn π).rn π = x
 | .pv x => rfl
 | .vec n cs => rfl
 | .agg l => by simp only [SV.rn, Lc hπ l]
 | .tup l => by simp only [SV.rn, Lc hπ l]
 | .p m off => by simp only [SV.rn, hπ]
 | .ps m off => by simp only [SV.rn, hπ]
 | .pr m sz i off => by simp only [SV.rn, hπ]
 | .pi sz es i off => rfl
 | .os m => by simp only [SV.rn, hπ]
 | .ov m z a b => by simp only [SV.rn, hπ]
 | .fn f cap => by simp only [SV.rn, Lc hπ cap]
 | .dead => rfl
theorem Lc (hπ : ∀ n, π (π n) = n) : ∀ l : List SV, SV.rnL π (SV.rnL π l) = l
 | [] => rfl
 | x :: l => by simp only [SV.rnL, Am4 hπ x, Lc hπ l]
end
theorem Ah2 (hπ : ∀ n, π (π n) = n) (b : Blk) : (b.rn π).rn π = b := by
 cases b with
 | var x => simp only [Blk.rn, Am4 hπ x]
 | row sz es => rfl
 | rowc sz es c => rfl
 | it l p => rfl
theorem Own.rn (hπ : ∀ n, π (π n) = n) {n : Nat} {blk : Blk} (h : Own w V ρ (π n) blk) : Own w V (fun n => ρ (π n)) n (blk.rn π) := by
 cases blk with
 | var x =>
   obtain ⟨b, vs, ty, fr, u, g1, g2, g3, g4, g5, g6, g7⟩ := h;exact ⟨b, vs, ty, fr, u, g1, g2, g3, g4.rn hπ, g5, by rw [T7]; exact g6, g7⟩
 | row sz es => exact h
 | rowc sz es c => exact h
 | it l p => exact h
theorem RelR.rn (hπ : ∀ n, π (π n) = n) (h : RelR F N ρ s a w) : RelR F N (fun n => ρ (π n)) (s.rn π) a w := by
 have hh : ∀ n x, (s.rn π).h n = some x → ∃ y, s.h (π n) = some y ∧ x = y.rn π := fun n x hx => by
  obtain ⟨y, h1, h2⟩ := Option.map_eq_some_iff.1 hx;exact ⟨y, h1, h2.symm⟩
 have how : ∀ b, Cd (fun n => ρ (π n)) (s.rn π).h b ↔ Cd ρ s.h b := fun b => by
  constructor
  · rintro ⟨n, x, h1, h2⟩;obtain ⟨y, h3, _⟩ := hh n x h1;exact ⟨π n, y, h3, h2⟩
  · rintro ⟨n, x, h1, h2⟩;exact ⟨π n, x.rn π, by simp only [FS.rn, hπ, h1]; rfl, by simpa only [hπ] using h2⟩
 have hV : Ay w (F.out (fun n => ρ (π n)) (s.rn π).h) = Ay w (F.out ρ s.h) := by
  congr 1;funext b;exact propext (or_congr_left (how b))
 refine ⟨h.fr, fun b hb => h.may b ((how b).1 hb), fun n x hx => ?_, fun n m x y b hn hm hbn hbm => ?_, fun n => ?_, h.size, h.defers⟩
 · obtain ⟨y, h1, rfl⟩ := hh n x hx;rw [hV];exact (h.own (π n) y h1).rn hπ
 · obtain ⟨x', h1, _⟩ := hh n x hn;obtain ⟨y', h2, _⟩ := hh m y hm;have := h.inj (π n) (π m) x' y' b h1 h2 hbn hbm;have := congrArg π this;simpa only [hπ] using this
 · rw [hV];exact (h.tmps n).rn hπ
mutual
theorem Z5 (hπ : ∀ n, π (π n) = n) (n : Nat) : ∀ x : SV, (x.kill n).rn π = (x.rn π).kill (π n)
 | .pv x => rfl
 | .vec m cs => rfl
 | .agg l => by simp only [SV.kill, SV.rn, Qa hπ n l]
 | .tup l => by simp only [SV.kill, SV.rn, Qa hπ n l]
 | .p m off => by simp only [SV.kill, SV.rn, (Rs hπ n m)]; split <;> simp only [SV.rn]
 | .ps m off => by simp only [SV.kill, SV.rn, (Rs hπ n m)]; split <;> simp only [SV.rn]
 | .pr m sz i off => by simp only [SV.kill, SV.rn, (Rs hπ n m)]; split <;> simp only [SV.rn]
 | .pi sz es i off => rfl
 | .os m => by simp only [SV.kill, SV.rn, (Rs hπ n m)]; split <;> simp only [SV.rn]
 | .ov m z a b => by simp only [SV.kill, SV.rn, (Rs hπ n m)]; split <;> simp only [SV.rn]
 | .fn f cap => by simp only [SV.kill, SV.rn, Qa hπ n cap]
 | .dead => rfl
theorem Qa (hπ : ∀ n, π (π n) = n) (n : Nat) : ∀ l : List SV, SV.rnL π (SV.killL n l) = SV.killL (π n) (SV.rnL π l)
 | [] => rfl
 | x :: l => by simp only [SV.killL, SV.rnL, Z5 hπ n x, Qa hπ n l]
theorem Rs (hπ : ∀ n, π (π n) = n) (n m : Nat) : (π n = π m) = (n = m) := propext ⟨fun h => by have := congrArg π h; simpa only [hπ] using this, fun h => by rw [h]⟩
end
mutual
theorem Aff (hπ : ∀ n, π (π n) = n) (n : Nat) (v : PV) : ∀ x : SV, (x.frz n v).rn π = (x.rn π).frz (π n) v
 | .pv x => rfl
 | .vec m cs => rfl
 | .agg l => by simp only [SV.frz, SV.rn, Tr hπ n v l]
 | .tup l => by simp only [SV.frz, SV.rn, Tr hπ n v l]
 | .p m off => rfl
 | .ps m off => rfl
 | .pr m sz i off => rfl
 | .pi sz es i off => rfl
 | .os m => by simp only [SV.frz, SV.rn, (Rs hπ n m)]; split <;> simp only [SV.rn]
 | .ov m z a b => rfl
 | .fn f cap => by simp only [SV.frz, SV.rn, Tr hπ n v cap]
 | .dead => rfl
theorem Tr (hπ : ∀ n, π (π n) = n) (n : Nat) (v : PV) : ∀ l : List SV, SV.rnL π (SV.frzL n v l) = SV.frzL (π n) v (SV.rnL π l)
 | [] => rfl
 | x :: l => by simp only [SV.frzL, SV.rnL, Aff hπ n v x, Tr hπ n v l]
end
theorem Aqw (hπ : ∀ n, π (π n) = n) (n : Nat) (b : Blk) : (b.kill n).rn π = (b.rn π).kill (π n) := by
 cases b with
 | var x => simp only [Blk.kill, Blk.rn, Z5 hπ n x]
 | row sz es => rfl
 | rowc sz es c => rfl
 | it l p => rfl
theorem Avv (hπ : ∀ n, π (π n) = n) (n : Nat) (v : PV) (b : Blk) : (b.frz n v).rn π = (b.rn π).frz (π n) v := by
 cases b with
 | var x => simp only [Blk.frz, Blk.rn, Aff hπ n v x]
 | row sz es => rfl
 | rowc sz es c => rfl
 | it l p => rfl
theorem Awp (hπ : ∀ n, π (π n) = n) (n m : Nat) : (π n = m) = (n = π m) := propext ⟨fun h => by rw [← h, hπ], fun h => by rw [h, hπ]⟩
theorem Ams (hπ : ∀ n, π (π n) = n) (n : Nat) (s : FS) : (s.kill n).rn π = (s.rn π).kill (π n) := by
 refine FS.ext' (fun k => Z5 hπ n _) (fun k => ?_);simp only [FS.kill, FS.rn, Option.map_map];cases s.h (π k) with
 | none => rfl
 | some b => simp only [Option.map_some, Function.comp, Aqw hπ n b]
theorem Zd (hπ : ∀ n, π (π n) = n) (n : Nat) (b : Option Blk) (s : FS) : (s.seth n b).rn π = (s.rn π).seth (π n) (b.map (Blk.rn π)) := by
 refine FS.ext' (fun k => rfl) (fun k => ?_);simp only [FS.seth, FS.rn, Awp hπ k n];split <;> rfl
theorem As0 (hπ : ∀ n, π (π n) = n) (n : Nat) (v : PV) (s : FS) : (s.frz n v).rn π = (s.rn π).frz (π n) v := by
 refine FS.ext' (fun k => Aff hπ n v _) (fun k => ?_);simp only [FS.frz, FS.rn, Awp hπ k n, Option.map_map];split
 · rfl
 · cases s.h (π k) with
   | none => rfl
   | some b => simp only [Option.map_some, Function.comp, Avv hπ n v b]
theorem Rw (hπ : ∀ n, π (π n) = n) : ∀ (u : List HU) (s : FS), (s.hup u).rn π = (s.rn π).hup (u.map (HU.rn π))
 | [], s => rfl
 | .new n b :: u, s => by simp only [FS.hup, List.map_cons, HU.rn, Rw hπ u, Zd hπ, Ams hπ]; rfl
 | .upd n b :: u, s => by simp only [FS.hup, List.map_cons, HU.rn, Rw hπ u, Zd hπ]; rfl
 | .del n :: u, s => by simp only [FS.hup, List.map_cons, HU.rn, Rw hπ u, Zd hπ]; rfl
 | .frz n v :: u, s => by simp only [FS.hup, List.map_cons, HU.rn, Rw hπ u, As0 hπ]
 | .set t h :: u, s => by simp only [FS.hup, List.map_cons, HU.rn, Rw hπ u]; rfl
mutual
theorem A1z (hπ : ∀ n, π (π n) = n) {k : Nat} : ∀ {x : SV}, k ∈ tn (x.rn π) → π k ∈ tn x
 | .p m o, h => by simp only [SV.rn, tn, List.mem_singleton] at *; rw [h, hπ]
 | .ps m o, h => by simp only [SV.rn, tn, List.mem_singleton] at *; rw [h, hπ]
 | .pr m z i o, h => by simp only [SV.rn, tn, List.mem_singleton] at *; rw [h, hπ]
 | .os m, h => by simp only [SV.rn, tn, List.mem_singleton] at *; rw [h, hπ]
 | .ov m z a b, h => by simp only [SV.rn, tn, List.mem_singleton] at *; rw [h, hπ]
 | .fn f cap, h => by simp only [SV.rn, tn] at *; exact Nl hπ h
 | .pv _, h => by simp [SV.rn, tn] at h
 | .vec _ _, h => by simp [SV.rn, tn] at h
 | .agg l, h => by simp only [SV.rn, tn] at *; exact Nl hπ h
 | .tup l, h => by simp only [SV.rn, tn] at *; exact Nl hπ h
 | .pi _ _ _ _, h => by simp [SV.rn, tn] at h
 | .dead, h => by simp [SV.rn, tn] at h
theorem Nl (hπ : ∀ n, π (π n) = n) {k : Nat} : ∀ {l : List SV}, k ∈ A8 (SV.rnL π l) → π k ∈ A8 l
 | [], h => by simp [SV.rnL, A8] at h
 | x :: l, h => by
   simp only [SV.rnL, A8, List.mem_append] at *;exact h.imp (A1z hπ) (Nl hπ)
end
theorem Awc (hπ : ∀ n, π (π n) = n) (F : Fr) (w : World) (ρ : Nat → Value) (s : FS) : vw F w (fun n => ρ (π n)) (s.rn π) = vw F w ρ s := by
 show Ay w _ = Ay w _;congr 1;funext b;refine propext (or_congr_left ⟨?_, ?_⟩)
 · rintro ⟨n, x, h1, h2⟩;obtain ⟨y, h3, _⟩ := Option.map_eq_some_iff.1 h1;exact ⟨π n, y, h3, h2⟩
 · rintro ⟨n, x, h1, h2⟩;exact ⟨π n, x.rn π, by simp only [FS.rn, hπ, h1]; rfl, by simpa only [hπ] using h2⟩
theorem FunOk.rn (hπ : ∀ n, π (π n) = n) {f : Nat} {args : List SV} {h : Nat → Option Blk} {d d' : Nat} {x : SV} {u : List HU} (hf : FunOk P f args h d x u) :
 FunOk P f (SV.rnL π args) (fun n => (h (π n)).map (Blk.rn π)) d' (x.rn π) (u.map (HU.rn π)) := by
 refine ⟨hf.1, fun F N ρ s a w hR hh vs hc => ?_⟩;have hR' := hR.rn hπ;have hc' : ConcL (vw F w (fun n => ρ (π n)) (s.rn π)) (fun n => ρ (π n)) args vs := by
  rw [Awc hπ];have := hc.rn hπ
  rwa [Lc hπ] at this
 refine Calls.mono (hf.2 F N _ _ a w hR' (fun n hn => ?_) vs hc') fun e w' he => ?_
 · have hm : π n ∈ A8 (SV.rnL π args) := by
    have := Nl hπ (k := π n) (l := SV.rnL π args);rw [Lc hπ, hπ] at this;refine Classical.byContradiction fun hno => ?_;have key : ∀ (l : List SV) (k : Nat), k ∈ A8 l → π k ∈ A8 (SV.rnL π l) := fun l k hk => by
     have := Nl hπ (k := π (π k)) (l := SV.rnL π l);rw [Lc hπ, hπ] at this;exact this hk
    exact hno (key args n hn)
   have := hh (π n) hm;simp only [FS.rn];rw [this];simp only [hπ];cases h n with
   | none => rfl
   | some b => simp only [Option.map_some, Ah2 hπ]
 · obtain ⟨v, ρ', rfl, h1, h2⟩ := he;have h1' := h1.rn hπ;have e : ((s.rn π).hup u).rn π = s.hup (u.map (HU.rn π)) := by
    rw [Rw hπ];congr 1;refine FS.ext' (fun k => Am4 hπ _) (fun k => ?_);simp only [FS.rn, hπ, Option.map_map];cases s.h k with
    | none => rfl
    | some b => simp only [Option.map_some, Function.comp, Ah2 hπ]
   rw [e] at h1';refine ⟨v, _, rfl, h1', ?_⟩;have h2' := h2.rn hπ;have ev := Awc hπ F w' ρ' ((s.rn π).hup u);rw [e] at ev;rw [ev];exact h2'
theorem FunOk.at {f : Nat} {args : List SV} {h h' : Nat → Option Blk} {d : Nat} {x : SV} {u : List HU} (hf : FunOk P f args h d x u) (hh : ∀ n ∈ A8 args, h' n = h n) : FunOk P f args h' d x u :=
 ⟨hf.1, fun F N ρ s a w hR hs vs hc => hf.2 F N ρ s a w hR (fun n hn => (hs n hn).trans (hh n hn)) vs hc⟩
def sw1 (a m : Nat) (k : Nat) : Nat := if k = a then m else if k = m then a else k
theorem Agl (a m : Nat) (k : Nat) : sw1 a m (sw1 a m k) = k := by unfold sw1; split <;> (try split) <;> (try split) <;> omega
def Yy (a m b n : Nat) (k : Nat) : Nat := if k = a then m else if k = m then a else if k = b then n else if k = n then b else k
theorem Agk {a m b n : Nat} (h1 : a ≠ b) (h2 : a ≠ n) (h3 : m ≠ b) (h4 : m ≠ n) (k : Nat) : Yy a m b n (Yy a m b n k) = k := by unfold Yy; repeat' split <;> (try omega)
end Go.Proofs.YthhomcfimdkfhaaGreat.Fw
namespace Go.Proofs.YthhomcfimdkfhaaGreat.Fw
open Go.RowKit
abbrev iM (d n : Nat) : I := ⟨.mv, [.t n], some d, none⟩
abbrev iJ (k : Kd) (x : List Opd) (d : Nat) : I := ⟨k, x, some d, none⟩
abbrev iO (k : Kd) (x : List Opd) : I := ⟨k, x, none, none⟩
abbrev iG (k : Kd) (x : List Opd) (d g : Nat) (w : Bool) : I := ⟨k, x, some d, some (g, w)⟩
abbrev cI (n : Int) : Opd := .c (.pv (.i .i64 n))
section
variable (E : Env)
def V1 (D ps : List Nat) (c j : Nat) (d : Option Nat) (T : List Nat) (acc : List (Nat × List Nat)) (l : List (I × Nat × List Nat × List Nat × Nat)) (Q : Df) (s : FS) : KK :=
 fun x u => okP D c (d.getD 1000000000) x u T ∧ Ze acc ps T ∧ sxP E l (Ads c j T acc) Q (s.apply d x u)
def gdP (D ps : List Nat) (c j : Nat) (k : Kd) (x : List Opd) (d : Nat) (T : List Nat) (acc : List (Nat × List Nat)) (l : List (I × Nat × List Nat × List Nat × Nat)) (Q : Df) (s : FS) : Prop := body E k x d s (V1 E D ps c j (some d) T acc l Q s)
def skP (D ps : List Nat) (c j : Nat) (d : Nat) (T : List Nat) (acc : List (Nat × List Nat)) (l : List (I × Nat × List Nat × List Nat × Nat)) (Q : Df) (s : FS) : Prop := V1 E D ps c j (some d) T acc l Q s (.tup []) []
theorem Asj (D l Q s) : sx E (.anyP D l) Q s = Ara E.reg D l Q s := (rfl)
theorem Aqm (D ps c j d T acc l Q s x u) : V1 E D ps c j d T acc l Q s x u = (okP D c (d.getD 1000000000) x u T ∧ Ze acc ps T ∧ sxP E l (Ads c j T acc) Q (s.apply d x u)) := (rfl)
theorem Asl (acc Q s) : sxP E [] acc Q s = Q .normal s := (rfl)
theorem Ama (k x d c D ps j l acc Q s) : sxP E ((⟨k, x, some d, none⟩, c, D, ps, j) :: l) acc Q s = body E k x d s (V1 E D ps c j (some d) (d :: Ki (Bu s x)) acc l Q s) := (rfl)
theorem Aid (k x c D ps j l acc Q s) : sxP E ((⟨k, x, none, none⟩, c, D, ps, j) :: l) acc Q s = body E k x 0 s (V1 E D ps c j none (Ki (Bu s x)) acc l Q s) := (rfl)
theorem C9 (D ps c j k x d T acc l Q s) : gdP E D ps c j k x d T acc l Q s = body E k x d s (V1 E D ps c j (some d) T acc l Q s) := (rfl)
theorem C8 (D ps c j d T acc l Q s) : skP E D ps c j d T acc l Q s = V1 E D ps c j (some d) T acc l Q s (.tup []) [] := (rfl)
variable {E}
theorem Wh {D l Q s} (h : sxP E l [] Q (killD D s)) : Ara E D l Q s := ⟨s, .refl s, h⟩
end
theorem A2n (D d x u T) : okP D 0 d x u T = (noD d x D ∧ u = []) := (rfl)
theorem A2m (D d x u T) : okP D 1 d x u T = (noD d x D ∧ Ic D d u) := (rfl)
theorem A2l (D d x u T) : okP D 2 d x u T = (noD d x D ∧ Es D d u ∧ Ia T u) := (rfl)
theorem Ad3 (T) : Ia T [] = True := (rfl)
theorem Ad2 (T n b u) : Ia T (.upd n b :: u) = (inT n T ∧ Ia T u) := (rfl)
theorem Ao8 (n m T) : inT n (m :: T) = if n = m then True else inT n T := (rfl)
theorem Anc (n) : Abz n [] = True := (rfl)
theorem Ai0 (n m T) : Abz n (m :: T) = if n = m then False else Abz n T := (rfl)
theorem Aky (T) : Sq [] T = True := (rfl)
theorem Afl (n S T) : Sq (n :: S) T = (Abz n T ∧ Sq S T) := (rfl)
theorem Am0 (acc T) : Ze acc [] T = True := (rfl)
theorem Aiv (acc k ps T) : Ze acc (k :: ps) T = (Sq (lk [] k acc) T ∧ Ze acc ps T) := (rfl)
theorem A1c (k T acc) : Ads 0 k T acc = acc := (rfl)
theorem A1b (k T acc) : Ads 1 k T acc = (k, T) :: acc := (rfl)
theorem A1a (k T acc) : Ads 2 k T acc = (k, T) :: acc := (rfl)
theorem Aic : Ki [] = [] := (rfl)
theorem Ad4 (x l) : Ki (x :: l) = tnP x ++ Ki l := (rfl)
theorem A11 (n o) : tnP (.p n o) = [n] := (rfl)
theorem Aw2 (n z i o) : tnP (.pr n z i o) = [n] := (rfl)
theorem Aw4 (n) : tnP (.os n) = [n] := (rfl)
theorem Aw1 (x) : tnP (.pv x) = [] := (rfl)
theorem Asc (n x) : tnP (.vec n x) = [] := (rfl)
theorem Aw3 (a b c d) : tnP (.pi a b c d) = [] := (rfl)
attribute [go_sem] Asj Aqm Asl Ama Aid A2n A2m A2l Ad3 Ad2 Ao8 Anc Ai0 Aky Afl Am0 Aiv A1c A1b A1a Aic Ad4 A11 Aw2 Aw4 Aw1 Asc Aw3
abbrev iU (k : Kd) (n d : Nat) : I := ⟨k, [.t n], some d, none⟩
abbrev iD (k : Kd) (m n d : Nat) : I := ⟨k, [.t m, .t n], some d, none⟩
abbrev iV (k : Kd) (n d g : Nat) (w : Bool) : I := ⟨k, [.t n], some d, some (g, w)⟩
abbrev L1 : Kd := .ld 1 false
abbrev L2 : Kd := .ld 2 true
abbrev L8 : Kd := .ld 8 true
abbrev B1 : Kd := .bin .eql
abbrev B2 : Kd := .bin .add
abbrev B3 : Kd := .bin .lss
abbrev B4 : Kd := .bin .gtr
abbrev B5 : Kd := .bin .sub
abbrev B6 : Kd := .bin .neq
abbrev B7 : Kd := .bin .leq
abbrev B8 : Kd := .bin .geq
abbrev U1 : Kd := .un .not
abbrev S1 : Kd := .sto 1
abbrev zV : SV := .vec 8 (List.replicate 8 (.i .u32 0))
abbrev zW : SV := .vec 8 (List.replicate 8 (.i .i64 0))
abbrev zX : SV := .vec 8 (List.replicate 8 (.b false))
abbrev zN : SV := .pv (.sl true 0 [])
abbrev zI : SV := .pv (.i .i64 0)
abbrev zU : SV := .pv (.i .u32 0)
abbrev zF : SV := .pv (.b false)
abbrev zS : SV := .pv (.s [])
abbrev zT : SV := .pv (.b true)
abbrev jP (a b d : Nat) : I := ⟨.pick, [.t a, .c zT, .t b], some d, none⟩
abbrev jQ (a b d : Nat) : I := ⟨.pick, [.t a, .t b, .c zF], some d, none⟩
abbrev jC (n : Int) (d : Nat) : I := ⟨.mv, [cI n], some d, none⟩
abbrev jW (z a b : Nat) : I := ⟨.sto z, [.t a, .t b], none, none⟩
abbrev jF (o n d : Nat) : I := ⟨.fa o, [.t n], some d, none⟩
abbrev jK (k : Kd) (a : Nat) (n : Int) (d : Nat) : I := ⟨k, [.t a, cI n], some d, none⟩
abbrev jA (k : Kd) (n d g : Nat) : I := ⟨k, [.t n], some d, some (g, true)⟩
abbrev jB (k : Kd) (n d g : Nat) : I := ⟨k, [.t n], some d, some (g, false)⟩
abbrev jE (d : Nat) : I := ⟨.new (.agg [zI, zU, zV, zI, zI, zU, zI, zU, zS, zN, zN, zI, zS, zI]), [], some d, none⟩
abbrev jL (o n d g : Nat) : I := ⟨.fa o, [.t n], some d, some (g, true)⟩
abbrev jN (o n d g : Nat) : I := ⟨.fa o, [.t n], some d, some (g, false)⟩
abbrev jS (l : List I) (c : C) : C := .seq (.ops l) c
abbrev jI (n : Nat) (a : C) : C := .ite (.t n) a .skip
attribute [go_sem] L1 L2 L8 B1 B2 B3 B4 B5 B6 B7 B8 U1 S1 zV zW zX zN zI zU zF zS zT
end Go.Proofs.YthhomcfimdkfhaaGreat.Fw
namespace Go.Proofs.YthhomcfimdkfhaaGreat.Fw
open Go.RowKit
variable {P : Program} {F : Fr} {N : Nat} {ρ ρ' : Nat → Value} {s : FS} {a : Act} {w w' : World} {V V' : View}
def Blk.ptr (n : Nat) : Blk → SV
 | .var _ => .p n 0
 | .row _ _ => .os n
 | _ => .dead
def Blk.plain : Blk → Bool
 | .var x => x.closed
 | .row _ _ => true
 | _ => false
theorem Own.closed {n m : Nat} {blk : Blk} (hb : blk.plain = true) (hV : V.le V') (he : ρ n = ρ' m) (h : Own w V ρ' m blk) : Own w V' ρ n blk := by
 cases blk with
 | var x =>
   obtain ⟨b, vs, ty, fr, u, g1, g2, g3, g4, g5, g6, g7⟩ := h;exact ⟨b, vs, ty, fr, u, he.trans g1, g2, g3, B9 hV hb g4, g5, g6, g7⟩
 | row sz es =>
   obtain ⟨base, cap, g1, g2, g3, g4, g5⟩ := h;refine ⟨base, cap, he.trans g1, g2, g3, g4, fun hc => ?_⟩;obtain ⟨b, vs, ty, fr, k1, k2, k3, k4, k5, k6⟩ := g5 hc;exact ⟨b, vs, ty, fr, k1, k2, k3, k4, k5, fun i c hi => (k6 i c hi).mono hV⟩
 | rowc sz es c => cases hb
 | it l p => cases hb
theorem Agz {n : Nat} {blk : Blk} (hb : (blk.ptr n).kill n ≠ blk.ptr n) (h : Own w V ρ n blk) : Conc V ρ (blk.ptr n) (ρ n) := by
 cases blk with
 | var x =>
   obtain ⟨b, vs, ty, fr, u, g1, _⟩ := h;simp only [Blk.ptr, Conc];exact ⟨b, g1, g1⟩
 | row sz es =>
   obtain ⟨base, cap, g1, _⟩ := h;simp only [Blk.ptr, Conc];exact ⟨trivial, by rw [g1]; trivial⟩
 | rowc sz es c => simp only [Blk.ptr, SV.kill] at hb; exact absurd rfl hb
 | it l p => simp only [Blk.ptr, SV.kill] at hb; exact absurd rfl hb
theorem Ana {n m : Nat} {b b' : Blk} {v : Value} (hp : b'.ptr m = b.ptr m) (hb : (b.ptr n).kill n ≠ b.ptr n) (h : Conc V ρ (b.ptr n) v) (h' : Conc V' ρ' (b'.ptr m) v) : ρ n = ρ' m := by
 rw [hp] at h';cases b with
 | var x =>
   simp only [Blk.ptr, Conc] at h h';obtain ⟨p, e1, e2⟩ := h;obtain ⟨q, e3, e4⟩ := h';rw [e1, e3, ← e2, ← e4]
 | row sz es =>
   simp only [Blk.ptr, Conc] at h h';rw [← h.1, ← h'.1]
 | rowc sz es c => simp only [Blk.ptr, SV.kill] at hb; exact absurd rfl hb
 | it l p => simp only [Blk.ptr, SV.kill] at hb; exact absurd rfl hb
theorem Tq (hm : P.follows .mixedOrders = true) {f N' : Nat} {rs : List Rv} {c : C} (hf : A9 P f = some (N', rs, c)) {args : List SV} {h : Nat → Option Blk} {d g : Nat} {blk blk' : Blk} {x : SV} (hlen : args.length ≤ N')
 (hts : ∀ n ∈ A8 args, n = g) (hgt : g ∈ A8 args) (hg : h g = some blk) (hx : x.closed = true) (hp : (blk.ptr g).kill g ≠ blk.ptr g) (hb' : blk'.plain = true) (hpp : ∀ m, blk'.ptr m = blk.ptr m)
 (hrun : ∀ F, sx (Wx P F N') c (Aru rs fun y s => y = x ∧ ∃ m, s.t 1000000 = blk'.ptr m ∧ s.h m = some blk') (mk (Dv 0 args ++ [(1000000, blk.ptr g)]) [(g, some blk)])) :
 FunOk P f args h d x [.upd g blk'] := by
 refine ⟨C0 hf, fun F N ρ s a w hR hh vs hc => ?_⟩;have hsg : s.h g = some blk := (hh g hgt).trans hg;have hvl : vs.length = args.length := by
  clear hrun hlen hts hh hgt
  induction args generalizing vs with
  | nil => simp only [ConcL] at hc; subst hc; rfl
  | cons x l ih =>
    simp only [ConcL] at hc;obtain ⟨v, us, rfl, _, h⟩ := hc;simp [ih _ h]
 let F' : Fr := ⟨w, P4 ρ s.h [g], F.out ρ (Be s [g]).h, fun _ => ρ g, []⟩
 have hmine : ∀ b, P4 ρ s.h [g] b ↔ Ch (ρ g) = some b := fun b => by
  constructor
  · rintro ⟨n, hn, x, h1, h2⟩;simp only [List.mem_singleton] at hn; subst hn; exact h2
  · intro hb; exact ⟨g, List.mem_singleton.2 rfl, blk, hsg, hb⟩
 have hlk : ∀ n, lk none n [(g, some blk)] = if n = g then some blk else none := fun n => by simp only [lk]
 have how : ∀ b, Cd ρ (mk (Dv 0 args ++ [(1000000, blk.ptr g)]) [(g, some blk)]).h b ↔ P4 ρ s.h [g] b := fun b => by
  rw [hmine];constructor
  · rintro ⟨n, x, h1, h2⟩;simp only [mk, hlk] at h1;split at h1
    · rename_i e; subst e; exact h2
    · cases h1
  · intro hb; exact ⟨g, blk, by simp [mk, lk], hb⟩
 have hoth : ∀ b, Cd ρ (Be s [g]).h b ↔ ∃ n, n ≠ g ∧ ∃ x, s.h n = some x ∧ Ch (ρ n) = some b := fun b => by
  constructor
  · rintro ⟨n, x, h1, h2⟩;simp only [Be, List.mem_singleton] at h1; split at h1
    · cases h1
    · rename_i hn; exact ⟨n, hn, x, h1, h2⟩
  · rintro ⟨n, hn, x, h1, h2⟩;exact ⟨n, x, by simp only [Be, List.mem_singleton, if_neg hn]; exact h1, h2⟩
 have hview : Ay w (F'.out ρ (mk (Dv 0 args ++ [(1000000, blk.ptr g)]) [(g, some blk)]).h) = vw F w ρ s := by
  show Ay w _ = Ay w _;congr 1;funext b;refine propext ⟨fun hb => ?_, fun hb => ?_⟩
  · rcases hb with hb | hb
    · obtain ⟨n, _, x, h1, h2⟩ := (how b).1 hb; exact .inl ⟨n, x, h1, h2⟩
    · rcases hb with hb | hb
      · obtain ⟨n, _, x, h1, h2⟩ := (hoth b).1 hb; exact .inl ⟨n, x, h1, h2⟩
      · exact .inr hb
  · rcases hb with ⟨n, x, h1, h2⟩ | hb
    · by_cases hn : n = g
      · subst hn; exact .inl ((how b).2 ((hmine b).2 h2))
      · exact .inr (.inl ((hoth b).2 ⟨n, hn, x, h1, h2⟩))
    · exact .inr (.inr hb)
 have hgl : ∀ (k : Nat) (l : List SV) (n : Nat) (t : List (Nat × SV)), (∀ i, k ≤ i → i < k + l.length → i ≠ n) → lk .dead n (Dv k l ++ t) = lk .dead n t := by
  intro k l
  induction l generalizing k with
  | nil => intro n t _; rfl
  | cons y l ih =>
    intro n t hn;simp only [Dv, List.cons_append, lk];rw [if_neg fun e => hn k (Nat.le_refl k) (by simp) e.symm];exact ih (k + 1) n t fun i h1 h2 => hn i (by omega) (by simp only [List.length_cons]; omega)
 have hap : ∀ (k : Nat) (l : List SV) (n : Nat) (t : List (Nat × SV)), k ≤ n → n < k + l.length → lk .dead n (Dv k l ++ t) = lk .dead n (Dv k l) := by
  intro k l
  induction l generalizing k with
  | nil => intro n t h1 h2; simp at h2; omega
  | cons y l ih =>
    intro n t h1 h2;simp only [Dv, List.cons_append, lk];split
    · rfl
    · exact ih (k + 1) n t (by omega) (by simp only [List.length_cons] at h2; omega)
 have hN := Ts hf;have hR0 : RelR F' N' ρ (mk (Dv 0 args ++ [(1000000, blk.ptr g)]) [(g, some blk)]) { tmps := (⟨vs⟩ : Array Value) ++ Array.replicate (N' - (⟨vs⟩ : Array Value).size) undef, defers := [] } w := by
  refine ⟨⟨rfl, rfl, rfl, Nat.le_refl _, fun _ _ _ => rfl, fun b hb => ⟨?_, fun hmi => ?_⟩⟩, fun b hb => .inr ((how b).1 hb), fun n x hx => ?_, fun n m x y b hx hy hbx hby => ?_, fun n => ?_, by simp; omega, rfl⟩
  · rcases hb with hb | hb
    · obtain ⟨n, _, x, h1, h2⟩ := (hoth b).1 hb; exact (hR.own n x h1).lt h2
    · exact Nat.lt_of_lt_of_le (hR.fr.hid b hb).1 hR.fr.size
  · have hmb := (hmine b).1 hmi;rcases hb with hb | hb
    · obtain ⟨m, hm, y, g1, g2⟩ := (hoth b).1 hb;exact hm (hR.inj m g y blk b g1 hsg g2 hmb)
    · exact hR.shown ⟨g, blk, hsg, hmb⟩ hb
  · rw [hview];simp only [mk, hlk] at hx; split at hx
    · rename_i e; subst e; cases hx; exact hR.own _ _ hsg
    · cases hx
  · simp only [mk, hlk] at hx hy;split at hx
    · split at hy
      · rename_i e1 e2; rw [e1, e2]
      · cases hy
    · cases hx
  · rw [hview];simp only [mk];unfold Fr.val;by_cases hb : n < N8
    · rw [if_pos hb];have he : ((⟨vs⟩ : Array Value) ++ Array.replicate (N' - (⟨vs⟩ : Array Value).size) undef).getD n undef = (vs[n]?).getD undef := by
       rw [Array.getD_eq_getD_getElem?];by_cases hn : n < vs.length
       · rw [Array.getElem?_append_left (by simpa using hn)]; simp
       · rw [Array.getElem?_append_right (by simpa using hn)];rw [List.getElem?_eq_none (by omega)];simp only [Array.getElem?_replicate, Option.getD_none];split <;> rfl
      rw [he];have := I4 0 n hc;simp only [Nat.zero_le, if_true, Nat.sub_zero] at this;by_cases hn : n < args.length
      · rw [hap 0 args n _ (Nat.zero_le n) (by omega)]; exact this
      · rw [hgl 0 args n _ fun i h1 h2 => by omega];have : n ≠ 1000000 := fun e => by rw [e] at hb; exact Nat.lt_irrefl _ hb
        simp only [lk, if_neg this, Conc]
    · rw [if_neg hb, hgl 0 args n _ fun i h1 h2 => by omega];simp only [lk];split
      · exact Agz hp (hR.own g blk hsg)
      · simp only [Conc]
 refine Calls.mono (Ly hm hf rfl hR0.fr (fun b hb => by
  obtain ⟨n, hn, x, h1, h2⟩ := hb;exact (hR.own n x h1).lt h2) hR0 Aek (hrun F')) fun e w' he => ?_
 obtain ⟨v, ρ', s', a', y, rfl, hR', hy, hyx, m, ht, hm'⟩ := he;subst hyx;have hadr : ρ g = ρ' m := by
  have h1 := hR'.tmps 1000000;rw [ht] at h1;have e : F'.val a' 1000000 = ρ g := by
   unfold Fr.val;rw [if_neg (show ¬ (1000000 : Nat) < N8 from Nat.lt_irrefl _)]
  rw [e] at h1;exact Ana (hpp m) hp (Agz hp (hR.own g blk hsg)) h1
 have hout2 : ∀ b, F.out ρ (s.hup [.upd g blk']).h b → F'.out ρ' s'.h b := fun b hb => by
  rcases hb with ⟨n, z, h1, h2⟩ | hb
  · by_cases hn : n = g
    · subst hn;exact .inl ⟨m, blk', hm', by rw [← hadr]; exact h2⟩
    · have h1' : s.h n = some z := by simpa [FS.hup, FS.seth, hn] using h1
      exact .inr (.inl ((hoth b).2 ⟨n, hn, z, h1', h2⟩))
  · exact .inr (.inr hb)
 have hV2 : (Ay w' (F'.out ρ' s'.h)).le (Ay w' (F.out ρ (s.hup [.upd g blk']).h)) := Bk fun b c ho hc => ⟨fun hb => ho (hout2 b hb), hc⟩
 have hout1 : ∀ b, F.out ρ (s.hup [.upd g blk']).h b ↔ F.out ρ s.h b := fun b => by
  refine or_congr_left ⟨?_, ?_⟩
  · rintro ⟨n, z, h1, h2⟩;by_cases hn : n = g
    · subst hn; exact ⟨n, blk, hsg, h2⟩
    · exact ⟨n, z, by simpa [FS.hup, FS.seth, hn] using h1, h2⟩
  · rintro ⟨n, z, h1, h2⟩;by_cases hn : n = g
    · subst hn; exact ⟨n, blk', by simp [FS.hup, FS.seth], h2⟩
    · exact ⟨n, z, by simpa [FS.hup, FS.seth, hn] using h1, h2⟩
 have hkeep : ∀ b, b < w.heap.size → Ch (ρ g) ≠ some b → w'.heap[b]? = w.heap[b]? := fun b hb hn => hR'.fr.block b hb fun hmi => hn ((hmine b).1 hmi);have hV1 : (vw F w ρ s).le (Ay w' (F.out ρ (s.hup [.upd g blk']).h)) := Bk fun b c ho hc => by
  refine ⟨fun hb => ho ((hout1 b).1 hb), ?_⟩;have hlt : b < w.heap.size := by
   unfold Em at hc;cases hx : w.heap[b]? with
   | none => rw [hx] at hc; cases hc
   | some o => exact (Array.getElem?_eq_some_iff.1 hx).1
  rw [Dq (hkeep b hlt fun e => ho (.inl ⟨g, blk, hsg, e⟩))];exact hc
 refine ⟨v, ρ, rfl, ⟨⟨hR'.fr.os.trans hR.fr.os, hR'.fr.tape.trans hR.fr.tape, hR'.fr.output.trans hR.fr.output, Nat.le_trans hR.fr.size hR'.fr.size, fun b hlt hM => ?_, hR.fr.hid⟩, fun b hb => ?_, fun n z hz => ?_, fun n k z z' b hn hk hbn hbk => ?_, fun n => (hR.tmps n).mono hV1, hR.size, hR.defers⟩, B9 hV2 hx hy⟩
 · rw [hkeep b (Nat.lt_of_lt_of_le hlt hR.fr.size) fun e => ?_]
   · exact hR.fr.block b hlt hM
   · rcases hR.may b ⟨g, blk, hsg, e⟩ with h1 | h1
     · omega
     · exact hM h1
 · obtain ⟨n, z, h1, h2⟩ := hb;by_cases hn : n = g
   · subst hn; exact hR.may b ⟨n, blk, hsg, h2⟩
   · exact hR.may b ⟨n, z, by simpa [FS.hup, FS.seth, hn] using h1, h2⟩
 · by_cases hn : n = g
   · subst hn;have e : z = blk' := by simpa [FS.hup, FS.seth] using hz.symm
     subst e;exact Own.closed hb' hV2 hadr (hR'.own m _ hm')
   · have h1 : s.h n = some z := by simpa [FS.hup, FS.seth, hn] using hz
     refine (hR.own n z h1).congr hV1 fun b hb => hkeep b ((hR.own n z h1).lt hb) fun e => hn (hR.inj n g z blk b h1 hsg hb e)
 · have f : ∀ (q : Nat) (y : Blk), (s.hup [.upd g blk']).h q = some y → ∃ y', s.h q = some y' := fun q y hq => by
    by_cases e : q = g
    · subst e; exact ⟨blk, hsg⟩
    · exact ⟨y, by simpa [FS.hup, FS.seth, e] using hq⟩
   obtain ⟨z1, e1⟩ := f n z hn;obtain ⟨z2, e2⟩ := f k z' hk;exact hR.inj n k z1 z2 b e1 e2 hbn hbk
end Go.Proofs.YthhomcfimdkfhaaGreat.Fw
namespace Go.Proofs.YthhomcfimdkfhaaGreat.Fw
open Go.RowKit
variable {P : Program}
end Go.Proofs.YthhomcfimdkfhaaGreat.Fw
namespace Go.Proofs.YthhomcfimdkfhaaGreat.Fw
open Go.RowKit
variable {P : Program} {F : Fr} {N : Nat} {ρ ρ' : Nat → Value} {s : FS} {a : Act} {w w' : World} {V V' : View}
theorem FunOk.lend {f : Nat} {args : List SV} {h h' : Nat → Option Blk} {d d' : Nat} {x : SV} {n sz : Nat} {es : List (List PV)} (hn : h n = some (.row sz es)) (hin : n ∈ A8 args)
 (hc : A8 (SV.frzL n (.sl false sz es) args) = []) (hx : x.scalar = true) (hf : FunOk P f (SV.frzL n (.sl false sz es) args) h' d' x []) : FunOk P f args h d x [] := by
 refine ⟨hf.1, fun F N ρ s a w hR hh vs hv => ?_⟩;have hs := (hh n hin).trans hn
 let F2 : Fr := ⟨w, fun _ => False, F.out ρ (Be s [n]).h, fun _ => undef, []⟩
 have hRb := hR.weak (Pl s [n]);have hR2 : RelR F2 0 ρ ⟨fun _ => .dead, fun _ => none⟩ ⟨#[], []⟩ w :=
  ⟨⟨rfl, rfl, rfl, Nat.le_refl _, fun _ _ _ => rfl, fun b hb => ⟨by
   rcases hb with hb | hb
   · exact hRb.lt hb
   · exact Nat.lt_of_lt_of_le (hR.fr.hid b hb).1 hR.fr.size, id⟩⟩, fun b ⟨n, x, h, _⟩ => by simp at h, fun n x h => by simp at h, fun n m x y b h => by simp at h, fun n => by simp only [Conc], rfl, rfl⟩
 have hV : (vw F w ρ s).le (vw F2 w ρ ⟨fun _ => .dead, fun _ => none⟩) := Bk fun b c ho hc => ⟨fun hb => by
  rcases hb with ⟨n, x, h, _⟩ | hb
  · simp at h
  · rcases hb with ⟨k, x, h1, h2⟩ | hb
    · simp only [Be] at h1;split at h1
      · cases h1
      · exact ho (.inl ⟨k, x, h1, h2⟩)
    · exact ho (.inr hb), hc⟩
 have hp : PConc (vw F2 w ρ ⟨fun _ => .dead, fun _ => none⟩) (.sl false sz es) (ρ n) := (Lb hR hs).mono (Bk fun b c ho hc => ⟨fun hb => by
  rcases hb with ⟨n, x, h, _⟩ | hb
  · simp at h
  · rcases hb with ⟨k, x, h1, h2⟩ | hb
    · simp only [Be, List.mem_singleton] at h1;split at h1
      · cases h1
      · rename_i hk;exact ho (.inl ⟨k, x, by simp only [FS.seth, if_neg hk]; exact h1, h2⟩)
    · exact ho (.inr hb), hc⟩)
 refine Calls.mono (hf.2 F2 0 ρ _ _ w hR2 (by rw [hc]; simp) vs (ConcL.frz hV hp hv)) fun e w' he => ?_;obtain ⟨v, ρ', rfl, hR', hy⟩ := he;exact ⟨v, ρ, rfl, hR.grew ⟨hR'.fr.os, hR'.fr.tape, hR'.fr.output, hR'.fr.size, fun b hb => hR'.fr.block b hb id⟩, Hy hx hy⟩
mutual
theorem Conc.agree (hV : V.le V') : ∀ {x : SV} {v : Value}, (∀ n ∈ tn x, ρ' n = ρ n) → Conc V ρ x v → Conc V' ρ' x v
 | .pv x, v, _, h => by simp only [Conc] at *; exact h.mono hV
 | .vec n cs, v, _, h => by simp only [Conc] at *; obtain ⟨vs, a, b, c⟩ := h; exact ⟨vs, a, b, c.mono hV⟩
 | .agg l, v, hc, h => by simp only [Conc, tn] at *; obtain ⟨vs, a, b⟩ := h; exact ⟨vs, a, Cells.agree hV hc b⟩
 | .tup l, v, hc, h => by simp only [Conc, tn] at *; obtain ⟨vs, a, b⟩ := h; exact ⟨vs, a, ConcL.agree hV hc b⟩
 | .p n off, v, hc, h => by simp only [Conc, tn, List.mem_singleton, forall_eq] at *; rw [hc]; exact h
 | .ps n off, v, hc, h => by simp only [Conc, tn, List.mem_singleton, forall_eq] at *; rw [hc]; exact h
 | .pr n sz i off, v, hc, h => by simp only [Conc, tn, List.mem_singleton, forall_eq] at *; rw [hc]; exact h
 | .pi sz es i off, v, _, h => by
   simp only [Conc] at *;obtain ⟨b, o, arr, h1, h2, h3⟩ := h;exact ⟨b, o, arr, h1, hV _ _ h2, fun c hc => ⟨(h3 c hc).1, (h3 c hc).2.mono hV⟩⟩
 | .os n, v, hc, h => by simp only [Conc, tn, List.mem_singleton, forall_eq] at *; rw [hc]; exact h
 | .ov n sz lo hi, v, hc, h => by simp only [Conc, tn, List.mem_singleton, forall_eq] at *; rw [hc]; exact h
 | .fn f cap, v, hc, h => by simp only [Conc, tn] at *; obtain ⟨vs, a, b⟩ := h; exact ⟨vs, a, ConcL.agree hV hc b⟩
 | .dead, v, _, h => by simp only [Conc]
theorem ConcL.agree (hV : V.le V') : ∀ {l : List SV} {vs : List Value}, (∀ n ∈ A8 l, ρ' n = ρ n) → ConcL V ρ l vs → ConcL V' ρ' l vs
 | [], vs, _, h => by simp only [ConcL] at *; exact h
 | x :: l, vs, hc, h => by
   simp only [ConcL, A8, List.mem_append] at *;obtain ⟨u, us, a, b, c⟩ := h;exact ⟨u, us, a, Conc.agree hV (fun n hn => hc n (.inl hn)) b, ConcL.agree hV (fun n hn => hc n (.inr hn)) c⟩
theorem Cells.agree (hV : V.le V') : ∀ {l : List SV} {vs : List Value}, (∀ n ∈ A8 l, ρ' n = ρ n) → Cells V ρ l vs → Cells V' ρ' l vs
 | [], vs, _, h => by simp only [Cells] at *; exact h
 | x :: l, vs, hc, h => by
   simp only [Cells, A8, List.mem_append] at *;obtain ⟨u, us, a, b, c, d, e⟩ := h;exact ⟨u, us, a, Conc.agree hV (fun n hn => hc n (.inl hn)) b, c, d, Cells.agree hV (fun n hn => hc n (.inr hn)) e⟩
end
theorem R3 (t : List (Nat × SV)) (n : Nat) : ∀ (k : Nat) (l : List SV), (∀ i, k ≤ i → i < k + l.length → i ≠ n) → lk .dead n (Dv k l ++ t) = lk .dead n t
 | _, [], _ => rfl
 | k, y :: l, hn => by
   simp only [Dv, List.cons_append, lk];rw [if_neg fun e => hn k (Nat.le_refl k) (by simp) e.symm];exact R3 t n (k + 1) l fun i h1 h2 => hn i (by omega) (by simp only [List.length_cons]; omega)
theorem Yg (t : List (Nat × SV)) (n : Nat) : ∀ (k : Nat) (l : List SV), k ≤ n → n < k + l.length → lk .dead n (Dv k l ++ t) = lk .dead n (Dv k l)
 | k, [], h1, h2 => by simp at h2; omega
 | k, y :: l, h1, h2 => by
   simp only [Dv, List.cons_append, lk];split
   · rfl
   · exact Yg t n (k + 1) l (by omega) (by simp only [List.length_cons] at h2; omega)
theorem Ep (hm : P.follows .mixedOrders = true) {f N' : Nat} {rs : List Rv} {c : C} (hf : A9 P f = some (N', rs, c)) {args : List SV} {h : Nat → Option Blk} {d g m sz : Nat} {es es' : List (List PV)} {X X' x : SV} (hlen : args.length ≤ N')
 (hg : h g = some (.var X)) (hmm : h m = some (.row sz es)) (hgm : g ≠ m) (hx : x.closed = true) (hX : ∀ n ∈ tn X', n = g ∨ n = m)
 (hrun : ∀ F, sx (Wx P F N') c (Aru rs fun y s => y = x ∧ s.t 1000000 = .p g 0 ∧ s.h g = some (.var X') ∧ s.h m = some (.row sz es')) (mk (Dv 0 args ++ [(1000000, .p g 0)]) [(g, some (.var X)), (m, some (.row sz es))])) :
 DeepOk P f args h d x [.new m (.row sz es'), .upd g (.var X')] := by
 refine ⟨C0 hf, fun F N ρ s a w hR hh vs hc => ?_⟩;have hsg : s.h g = some (.var X) := by rw [hh]; exact hg
 have hsm : s.h m = some (.row sz es) := by rw [hh]; exact hmm
 have hvl := Yc hc
 let H : List (Nat × Option Blk) := [(g, some (.var X)), (m, some (.row sz es))]
 let F' : Fr := ⟨w, P4 ρ s.h [g, m], F.out ρ (Be s [g, m]).h, fun _ => ρ g, []⟩
 have hmine : ∀ b, P4 ρ s.h [g, m] b ↔ Ch (ρ g) = some b ∨ Ch (ρ m) = some b := fun b => by
  constructor
  · rintro ⟨n, hn, x, h1, h2⟩;simp only [List.mem_cons, List.not_mem_nil, or_false] at hn;rcases hn with rfl | rfl
    · exact .inl h2
    · exact .inr h2
  · rintro (hb | hb)
    · exact ⟨g, by simp, _, hsg, hb⟩
    · exact ⟨m, by simp, _, hsm, hb⟩
 have hlk : ∀ n z, lk none n H = some z ↔ (n = g ∧ z = .var X) ∨ (n = m ∧ z = .row sz es) := fun n z => by
  simp only [H, lk];by_cases e1 : n = g
  · subst e1; rw [if_pos rfl];constructor
    · intro e; cases e; exact .inl ⟨rfl, rfl⟩
    · rintro (⟨_, e⟩ | ⟨e, _⟩)
      · rw [e]
      · exact absurd e hgm
  · rw [if_neg e1];by_cases e2 : n = m
    · subst e2; rw [if_pos rfl];constructor
      · intro e; cases e; exact .inr ⟨rfl, rfl⟩
      · rintro (⟨e, _⟩ | ⟨_, e⟩)
        · exact absurd e e1
        · rw [e]
    · rw [if_neg e2];constructor
      · intro e; cases e
      · rintro (⟨e, _⟩ | ⟨e, _⟩)
        · exact absurd e e1
        · exact absurd e e2
 have hin : ∀ n z, lk none n H = some z → s.h n = some z := fun n z hz => by
  rcases (hlk n z).1 hz with ⟨rfl, rfl⟩ | ⟨rfl, rfl⟩
  · exact hsg
  · exact hsm
 have how : ∀ b, Cd ρ (mk (Dv 0 args ++ [(1000000, .p g 0)]) H).h b ↔ P4 ρ s.h [g, m] b := fun b => by
  rw [hmine];constructor
  · rintro ⟨n, z, h1, h2⟩;rcases (hlk n z).1 h1 with ⟨rfl, _⟩ | ⟨rfl, _⟩
    · exact .inl h2
    · exact .inr h2
  · rintro (hb | hb)
    · exact ⟨g, _, (hlk g _).2 (.inl ⟨rfl, rfl⟩), hb⟩
    · exact ⟨m, _, (hlk m _).2 (.inr ⟨rfl, rfl⟩), hb⟩
 have hoth : ∀ b, Cd ρ (Be s [g, m]).h b ↔ ∃ n, n ≠ g ∧ n ≠ m ∧ ∃ x, s.h n = some x ∧ Ch (ρ n) = some b := fun b => by
  constructor
  · rintro ⟨n, x, h1, h2⟩;simp only [Be] at h1; split at h1
    · cases h1
    · rename_i hn;simp only [List.mem_cons, List.not_mem_nil, or_false, not_or] at hn;exact ⟨n, hn.1, hn.2, x, h1, h2⟩
  · rintro ⟨n, hn, hn2, x, h1, h2⟩;exact ⟨n, x, by simp only [Be]; rw [if_neg (by simp [hn, hn2])]; exact h1, h2⟩
 have hview : Ay w (F'.out ρ (mk (Dv 0 args ++ [(1000000, .p g 0)]) H).h) = vw F w ρ s := by
  show Ay w _ = Ay w _;congr 1;funext b;refine propext ⟨fun hb => ?_, fun hb => ?_⟩
  · rcases hb with hb | hb
    · obtain ⟨n, _, x, h1, h2⟩ := (how b).1 hb; exact .inl ⟨n, x, h1, h2⟩
    · rcases hb with hb | hb
      · obtain ⟨n, _, _, x, h1, h2⟩ := (hoth b).1 hb; exact .inl ⟨n, x, h1, h2⟩
      · exact .inr hb
  · rcases hb with ⟨n, x, h1, h2⟩ | hb
    · by_cases hn : n = g
      · subst hn; exact .inl ((how b).2 ((hmine b).2 (.inl h2)))
      · by_cases hn2 : n = m
        · subst hn2; exact .inl ((how b).2 ((hmine b).2 (.inr h2)))
        · exact .inr (.inl ((hoth b).2 ⟨n, hn, hn2, x, h1, h2⟩))
    · exact .inr (.inr hb)
 have hN := Ts hf;have hR0 : RelR F' N' ρ (mk (Dv 0 args ++ [(1000000, .p g 0)]) H) { tmps := (⟨vs⟩ : Array Value) ++ Array.replicate (N' - (⟨vs⟩ : Array Value).size) undef, defers := [] } w := by
  refine ⟨⟨rfl, rfl, rfl, Nat.le_refl _, fun _ _ _ => rfl, fun b hb => ⟨?_, fun hmi => ?_⟩⟩, fun b hb => .inr ((how b).1 hb), fun n x hx => ?_, fun n k x y b hx hy hbx hby => ?_, fun n => ?_, by simp; omega, rfl⟩
  · rcases hb with hb | hb
    · obtain ⟨n, _, _, x, h1, h2⟩ := (hoth b).1 hb; exact (hR.own n x h1).lt h2
    · exact Nat.lt_of_lt_of_le (hR.fr.hid b hb).1 hR.fr.size
  · have hmb := (hmine b).1 hmi;rcases hb with hb | hb
    · obtain ⟨k, hk, hk2, y, g1, g2⟩ := (hoth b).1 hb;rcases hmb with hmb | hmb
      · exact hk (hR.inj k g y _ b g1 hsg g2 hmb)
      · exact hk2 (hR.inj k m y _ b g1 hsm g2 hmb)
    · rcases hmb with hmb | hmb
      · exact hR.shown ⟨g, _, hsg, hmb⟩ hb
      · exact hR.shown ⟨m, _, hsm, hmb⟩ hb
  · rw [hview]; exact hR.own _ _ (hin n x hx)
  · exact hR.inj n k x y b (hin n x hx) (hin k y hy) hbx hby
  · rw [hview];simp only [mk];unfold Fr.val;by_cases hb : n < N8
    · rw [if_pos hb];have he : ((⟨vs⟩ : Array Value) ++ Array.replicate (N' - (⟨vs⟩ : Array Value).size) undef).getD n undef = (vs[n]?).getD undef := by
       rw [Array.getD_eq_getD_getElem?];by_cases hn : n < vs.length
       · rw [Array.getElem?_append_left (by simpa using hn)]; simp
       · rw [Array.getElem?_append_right (by simpa using hn)];rw [List.getElem?_eq_none (by omega)];simp only [Array.getElem?_replicate, Option.getD_none];split <;> rfl
      rw [he];have := I4 0 n hc;simp only [Nat.zero_le, if_true, Nat.sub_zero] at this;by_cases hn : n < args.length
      · rw [Yg _ n 0 args (Nat.zero_le n) (by omega)]; exact this
      · rw [R3 _ n 0 args fun i h1 h2 => by omega];have : n ≠ 1000000 := fun e => by rw [e] at hb; exact Nat.lt_irrefl _ hb
        simp only [lk, if_neg this, Conc]
    · rw [if_neg hb, R3 _ n 0 args fun i h1 h2 => by omega];simp only [lk];split
      · obtain ⟨b, vs', ty, fr, u, k1, k2⟩ := hR.own g _ hsg;simp only [Conc];exact ⟨b, k1, k1⟩
      · simp only [Conc]
 refine Calls.mono (Ly hm hf rfl hR0.fr (fun b hb => by
  obtain ⟨n, hn, x, h1, h2⟩ := hb;exact (hR.own n x h1).lt h2) hR0 Aek (hrun F')) fun e w' he => ?_
 obtain ⟨v, ρ', s', a', y, rfl, hR', hy, hyx, ht, hg', hm'⟩ := he;subst hyx;have hadr : ρ g = ρ' g := by
  have h1 := hR'.tmps 1000000;rw [ht] at h1;have e : F'.val a' 1000000 = ρ g := by
   unfold Fr.val;rw [if_neg (show ¬ (1000000 : Nat) < N8 from Nat.lt_irrefl _)]
  rw [e] at h1;simp only [Conc] at h1;obtain ⟨b, e1, e2⟩ := h1;rw [e1, e2]
 let S : FS := s.hup [.new m (.row sz es'), .upd g (.var X')]
 let R : Nat → Value := upd ρ m (ρ' m)
 have Sg : S.h g = some (.var X') := by simp [S, FS.hup, FS.seth]
 have Sm : S.h m = some (.row sz es') := by simp [S, FS.hup, FS.seth, hgm.symm]
 have So : ∀ n, n ≠ g → n ≠ m → S.h n = (s.h n).map (Blk.kill m) := fun n h1 h2 => by simp [S, FS.hup, FS.seth, FS.kill, h1, h2]
 have Rg : R g = ρ' g := by simp only [R]; rw [Bq hgm]; exact hadr
 have Rm : R m = ρ' m := A0;have Ro : ∀ n, n ≠ m → R n = ρ n := fun n hn => Bq hn;have hlow : ∀ b, Ch (ρ' m) = some b → w.heap.size ≤ b ∨ P4 ρ s.h [g, m] b := fun b hb => hR'.may b ⟨m, _, hm', hb⟩;have hown : ∀ b, Cd R S.h b → (Cd ρ s.h b ∧ b < w.heap.size) ∨ (w.heap.size ≤ b ∧ Ch (ρ' m) = some b) := fun b hb => by
  obtain ⟨n, z, h1, h2⟩ := hb;by_cases e1 : n = g
  · subst e1; rw [Ro n hgm] at h2; exact .inl ⟨⟨n, _, hsg, h2⟩, (hR.own n _ hsg).lt h2⟩
  · by_cases e2 : n = m
    · subst e2; rw [Rm] at h2;rcases hlow b h2 with h3 | ⟨k, _, y, h4, h5⟩
      · exact .inr ⟨h3, h2⟩
      · exact .inl ⟨⟨k, y, h4, h5⟩, (hR.own k y h4).lt h5⟩
    · rw [So n e1 e2] at h1; rw [Ro n e2] at h2;obtain ⟨z', hz', _⟩ := Option.map_eq_some_iff.1 h1;exact .inl ⟨⟨n, z', hz', h2⟩, (hR.own n z' hz').lt h2⟩
 have hkeep : ∀ b, b < w.heap.size → ¬ P4 ρ s.h [g, m] b → w'.heap[b]? = w.heap[b]? := fun b hb hn => hR'.fr.block b hb hn;have hV1 : (vw F w ρ s).le (Ay w' (F.out R S.h)) := Bk fun b c ho hc => by
  have hlt : b < w.heap.size := Lx hc;refine ⟨fun hb => ?_, ?_⟩
  · rcases hb with hb | hb
    · rcases hown b hb with h1 | h1
      · exact ho (.inl h1.1)
      · omega
    · exact ho (.inr hb)
  · rw [Dq (hkeep b hlt fun ⟨k, _, y, h4, h5⟩ => ho (.inl ⟨k, y, h4, h5⟩))]; exact hc
 have hout2 : ∀ b, F.out R S.h b → F'.out ρ' s'.h b := fun b hb => by
  rcases hb with ⟨n, z, h1, h2⟩ | hb
  · by_cases e1 : n = g
    · subst e1; rw [Rg] at h2; exact .inl ⟨n, _, hg', h2⟩
    · by_cases e2 : n = m
      · subst e2; rw [Rm] at h2; exact .inl ⟨n, _, hm', h2⟩
      · rw [So n e1 e2] at h1; rw [Ro n e2] at h2;obtain ⟨z', hz', _⟩ := Option.map_eq_some_iff.1 h1;exact .inr (.inl ((hoth b).2 ⟨n, e1, e2, z', hz', h2⟩))
  · exact .inr (.inr hb)
 have hV2 : (Ay w' (F'.out ρ' s'.h)).le (Ay w' (F.out R S.h)) := Bk fun b c ho hc => ⟨fun hb => ho (hout2 b hb), hc⟩
 refine ⟨v, R, rfl, ⟨⟨hR'.fr.os.trans hR.fr.os, hR'.fr.tape.trans hR.fr.tape, hR'.fr.output.trans hR.fr.output, Nat.le_trans hR.fr.size hR'.fr.size, fun b hlt hM => ?_, hR.fr.hid⟩, fun b hb => ?_, fun n z hz => ?_, fun n k z z' b hn hk hbn hbk => ?_, fun n => ?_, hR.size, hR.defers⟩, B9 hV2 hx hy⟩
 · rw [hkeep b (Nat.lt_of_lt_of_le hlt hR.fr.size) fun ⟨k, _, y, h4, h5⟩ => ?_]
   · exact hR.fr.block b hlt hM
   · rcases hR.may b ⟨k, y, h4, h5⟩ with h1 | h1
     · omega
     · exact hM h1
 · rcases hown b hb with h1 | h1
   · exact hR.may b h1.1
   · exact .inl (Nat.le_trans hR.fr.size h1.1)
 · show Own w' (Ay w' (F.out R S.h)) R n z;have hz' : S.h n = some z := hz;by_cases e1 : n = g
   · subst e1;rw [Sg] at hz'; cases hz';obtain ⟨b, vs', ty, fr, u, k1, k2, k3, k4, k5⟩ := hR'.own n _ hg';refine ⟨b, vs', ty, fr, u, Rg.trans k1, k2, k3, k4.agree hV2 fun q hq => ?_, k5⟩;rcases hX q hq with rfl | rfl
     · exact Rg
     · exact Rm
   · by_cases e2 : n = m
     · subst e2;rw [Sm] at hz'; cases hz';exact Own.closed (blk := .row sz es') rfl hV2 Rm (hR'.own n _ hm')
     · rw [So n e1 e2] at hz';obtain ⟨z0, hz0, rfl⟩ := Option.map_eq_some_iff.1 hz';have ho := hR.own n z0 hz0;refine (ho.congr (V' := vw F w ρ s) (w' := w') (fun _ _ x => x) fun b hb => hkeep b (ho.lt hb) fun hmi => ?_).kill hV1 e2;rcases (hmine b).1 hmi with h1 | h1
       · exact e1 (hR.inj n g _ _ b hz0 hsg hb h1)
       · exact e2 (hR.inj n m _ _ b hz0 hsm hb h1)
 · have key : ∀ (q : Nat) (y : Blk), S.h q = some y → q ≠ m → ∃ y', s.h q = some y' := fun q y hq e2 => by
    by_cases e1 : q = g
    · subst e1; exact ⟨_, hsg⟩
    · rw [So q e1 e2] at hq;obtain ⟨y', hy', _⟩ := Option.map_eq_some_iff.1 hq;exact ⟨y', hy'⟩
   have one : ∀ (q : Nat) (y : Blk), S.h q = some y → Ch (R q) = some b → Ch (R m) = some b → q = m := fun q y hq hb1 hb2 => by
    by_cases e2 : q = m
    · exact e2
    · by_cases e1 : q = g
      · subst e1; rw [Rg] at hb1; rw [Rm] at hb2;exact hR'.inj q m _ _ b hg' hm' hb1 hb2
      · obtain ⟨y', hy'⟩ := key q y hq e2;rw [Ro q e2] at hb1; rw [Rm] at hb2;rcases hlow b hb2 with h3 | h3
        · have := (hR.own q y' hy').lt hb1; omega
        · rcases (hmine b).1 h3 with h1 | h1
          · exact absurd (hR.inj q g _ _ b hy' hsg hb1 h1) e1
          · exact hR.inj q m _ _ b hy' hsm hb1 h1
   by_cases e1 : n = m
   · rw [e1] at hbn ⊢; exact (one k z' hk hbk hbn).symm
   · by_cases e2 : k = m
     · rw [e2] at hbk ⊢; exact one n z hn hbn hbk
     · obtain ⟨z1, h1⟩ := key n z hn e1;obtain ⟨z2, h2⟩ := key k z' hk e2;rw [Ro n e1] at hbn; rw [Ro k e2] at hbk;exact hR.inj n k z1 z2 b h1 h2 hbn hbk
 · show Conc _ R ((s.t n).kill m) _;exact (hR.tmps n).kill hV1
theorem M4 : ∀ {a b : List SV} {vs : List Value}, Cells V ρ (a ++ b) vs → ∃ va vb, vs = va ++ vb ∧ Cells V ρ a va ∧ Cells V ρ b vb
 | [], b, vs, h => ⟨[], vs, rfl, by simp only [Cells], h⟩
 | x :: a, b, vs, h => by
   simp only [List.cons_append, Cells] at h;obtain ⟨u, us, rfl, h1, h2, h3, h4⟩ := h;obtain ⟨va, vb, rfl, h5, h6⟩ := M4 h4;exact ⟨Av u ++ va, vb, by rw [List.append_assoc], by simp only [Cells]; exact ⟨u, va, rfl, h1, h2, h3, h5⟩, h6⟩
theorem Pd : ∀ {a b : List SV} {va vb : List Value}, Cells V ρ a va → Cells V ρ b vb → Cells V ρ (a ++ b) (va ++ vb)
 | [], b, va, vb, h, k => by simp only [Cells] at h; subst h; exact k
 | x :: a, b, va, vb, h, k => by
   simp only [Cells] at h;obtain ⟨u, us, rfl, h1, h2, h3, h4⟩ := h;simp only [List.cons_append, Cells];exact ⟨u, us ++ vb, by rw [List.append_assoc], h1, h2, h3, Pd h4 k⟩
theorem FunOk.nilos {f : Nat} {args : List SV} {h : Nat → Option Blk} {d : Nat} {a b : List SV} {z sz : Nat} (hf : FunOk P f args h d (.agg (a ++ .pv (.sl true z []) :: b)) []) (ha : SV.closedL a = true) (hb : SV.closedL b = true) (hs : 0 < sz) :
 FunOk P f args h d (.agg (a ++ .os d :: b)) [.new d (.row sz [])] := by
 refine ⟨hf.1, fun F N ρ s ac w hR hh vs hv => Calls.mono (hf.2 F N ρ s ac w hR hh vs hv) fun e w' he => ?_⟩;obtain ⟨v, ρ', rfl, hR', hy⟩ := he;simp only [FS.hup, Conc] at hR' hy;obtain ⟨us, rfl, hc⟩ := hy;obtain ⟨va, vb, rfl, h1, h2⟩ := M4 hc;simp only [Cells] at h2;obtain ⟨u, ub, rfl, h3, h4, h5, h6⟩ := h2;simp only [Conc] at h3;obtain ⟨base, rfl⟩ : ∃ base, u = .slice base 0 0 := by
  cases h3 with
  | sl full sz es a cap cs bl off arr hcap hfull hsz ha hcs hel =>
    have := hfull rfl;simp only [List.length_nil] at this;subst this;exact ⟨a, rfl⟩
 have hn := hR'.adopt (Grew.refl w') d (.row sz []) (.slice base 0 0) (fun b hb => by cases base <;> simp [Ch] at hb) fun hV => ⟨base, 0, by rw [A0]; rfl, Nat.le_refl _, hs, by simp, fun h => absurd rfl h⟩
 refine ⟨_, _, rfl, hn.1, ?_⟩;simp only [Conc];refine ⟨_, rfl, Pd (F1 hn.2 ha h1) ?_⟩;simp only [Cells];exact ⟨.slice base 0 0, ub, rfl, by simp only [Conc]; exact ⟨by rw [A0], trivial⟩, h4, h5, F1 hn.2 hb h6⟩
end Go.Proofs.YthhomcfimdkfhaaGreat.Fw
