/- Loops, calls and loops over functions of the small language do in the model what their meaning tells. -/
import Derived.Test.YthleeikkpjiicaaDoorFwC
set_option linter.unusedVariables false
set_option linter.unusedSimpArgs false
set_option linter.unusedSectionVars false
namespace Go.Proofs.YthleeikkpjiicaaDoor.Fw
open Go.RowKit
variable {P : Program} {F : Fr} {N : Nat} {ρ ρ' : Nat → Value} {s : FS} {a : Act} {w w' : World} {V V' : View}
def C1 : Nat → List SV → List (Nat × SV)
 | _, [] => []
 | k, x :: l => (k, x) :: C1 (k + 1) l
inductive Rv where
 | t (n : Nat)
 | c (a size : Nat) (ag : Bool)
def E7 (s : FS) : List Rv → (List SV → Prop) → Prop
 | [], K => K []
 | .t n :: rs, K => E7 s rs fun l => K (s.t n :: l)
 | .c a size ag :: rs, K => Du s.h size ag (s.t a) fun x u => u = [] ∧ E7 s rs fun l => K (x :: l)
def one : List SV → SV
 | [x] => x
 | l => .tup l
def Ajx (rs : List Rv) (R : SV → FS → Prop) : Bi
 | .normal, s => E7 s rs fun l => R (one l) s
 | .ret, s => E7 s rs fun l => R (one l) s
 | _, _ => False
def Mq (rs : List Rv) (R : SV → FS → Prop) (s : FS) : Prop := ∃ s', Wk s s' ∧ E7 s' rs fun l => R (one l) s'
def Afc (rs : List Rv) (R : SV → FS → Prop) : Bi
 | .normal, s => Mq rs R s
 | .ret, s => Mq rs R s
 | _, _ => False
def Sk (rs : List Rv) (R : SV → (Nat → Option Blk) → Prop) : Bi := Ajx rs fun y s => R y s.h
def Pm (P : Program) : ResultVar → Option Rv
 | .tmp t => if t < Ii then some (.t t) else none
 | .cell a t => match Ad P t, Co P t with
   | some sz, some ag => if sz = 0 ∨ Ii ≤ a then none else some (.c a sz ag)
   | _, _ => none
def Bj (P : Program) (f : Nat) : Option (Nat × List Rv × C) := match P.funcs[f]? with
 | some fn => match fn.body, Af (fn.results.toList.map (Pm P)) with
   | some code, some rs => if fn.name = "runtime.NumGoroutine" ∨ Ii < fn.ntmps then none else (Az P fn.ntmps code).map fun c => (fn.ntmps, rs, c)
   | _, _ => none
 | none => none
theorem Qb {f : Nat} {rs : List Rv} {c : C} (h : Bj P f = some (N, rs, c)) : ∃ fn code, P.funcs[f]? = some fn ∧ fn.name ≠ "runtime.NumGoroutine" ∧ fn.body = some code ∧ fn.ntmps = N ∧ Af (fn.results.toList.map (Pm P)) = some rs ∧ Az P N code = some c := by
 unfold Bj at h;split at h
 · rename_i fn hf;split at h
   · rename_i code rs' hb hr;split at h
     · cases h
     · rename_i hn;obtain ⟨c', hc, e⟩ := Option.map_eq_some_iff.1 h;cases e;exact ⟨fn, code, hf, fun e => hn (.inl e), hb, rfl, hr, hc⟩
   · cases h
 · cases h
theorem Qc {f : Nat} {rs : List Rv} {c : C} (h : Bj P f = some (N, rs, c)) : N ≤ Ii := by
 unfold Bj at h;split at h
 · split at h
   · split at h
     · cases h
     · rename_i hn;obtain ⟨c', hc, e⟩ := Option.map_eq_some_iff.1 h;cases e;exact Nat.le_of_not_lt fun e => hn (.inr e)
   · cases h
 · cases h
theorem Xk {t : TypeId} {x v : Value} (h : (Instr.loadAt t x).run P w = .ok v w) : (do loadVar t (← asAddr x) : Sem Value).run P w = .ok v w := by
 unfold Instr.loadAt at h;cases x <;> first | exact h | skip
 all_goals first | (rename_i o; cases o <;> first | exact h | (cases h)) | (cases h)
theorem Uj (tmps : Array Value) (g : ResultVar → Sem Value) (hg : ∀ t, g (.tmp t) = pure (tmps.getD t undef)) (hg' : ∀ a t v, (Instr.loadAt t (tmps.getD a undef)).run P w = .ok v w → (g (.cell a t)).run P w = .ok v w) (hR : RelR F N ρ s a w) (ht : a.tmps = tmps) :
 ∀ (vars : List ResultVar) (rs : List Rv) (K : List SV → Prop) (acc : Array Value), Af (vars.map (Pm P)) = some rs → E7 s rs K →
  ∃ l vs, K l ∧ ConcL (vw F w ρ s) ρ l vs ∧ (List.foldlM (fun (bs : Array Value) r => bs.push <$> g r) acc vars).run P w = .ok (acc ++ (⟨vs⟩ : Array Value)) w
 | [], rs, K, acc, h, hk => by
   simp only [List.map_nil, Af, Option.some.injEq] at h;subst h;exact ⟨[], [], hk, by simp only [ConcL], by simp⟩
 | x :: vars, rs, K, acc, h, hk => by
   obtain ⟨r, rs', rfl, h1, h2⟩ := Ao (show Af (Pm P x :: vars.map (Pm P)) = some rs from h);have key : ∀ (v : Value) (y : SV), (g x).run P w = .ok v w → Conc (vw F w ρ s) ρ y v → (E7 s rs' fun l => K (y :: l)) →
    ∃ l vs, K l ∧ ConcL (vw F w ρ s) ρ l vs ∧ (List.foldlM (fun (bs : Array Value) r => bs.push <$> g r) acc (x :: vars)).run P w = .ok (acc ++ (⟨vs⟩ : Array Value)) w := fun v y hv hy hk' => by
    obtain ⟨l, vs, k1, k2, k3⟩ := Uj tmps g hg hg' hR ht vars rs' _ (acc.push v) h2 hk';refine ⟨y :: l, v :: vs, k1, by simp only [ConcL]; exact ⟨v, vs, rfl, hy, k2⟩, ?_⟩;rw [List.foldlM_cons];have : (acc.push <$> g x : Sem (Array Value)).run P w = .ok (acc.push v) w := by
     rw [← bind_pure_comp];rw [Aa hv]; rfl
    rw [Aa this, k3];congr 1;exact Array.toList_inj.1 (by simp)
   cases x with
   | tmp t =>
     simp only [Pm] at h1;split at h1
     · rename_i hb;simp only [Option.some.injEq] at h1;subst h1;simp only [E7] at hk;refine key (tmps.getD t undef) (s.t t) (by rw [hg]; rfl) ?_ hk;rw [← ht]; exact hR.tm t hb
     · cases h1
   | cell b t =>
     simp only [Pm] at h1;split at h1
     · rename_i sz ag hsz hag;split at h1
       · cases h1
       · rename_i hne;simp only [Option.some.injEq] at h1;subst h1;simp only [E7] at hk;obtain ⟨v, y, g1, g2, g3⟩ := Afu (P := P) hR (hR.tm b (by omega)) (by omega) hsz hag hk;exact key v y (hg' b t v (by rw [← ht]; exact g1)) g3 g2.2
     · cases h1
theorem Q4 {fn : Func} {rs : List Rv} (hR : RelR F N ρ s a w) (h : Af (fn.results.toList.map (Pm P)) = some rs) {K : List SV → Prop} (hk : E7 s rs K) :
 ∃ l v, K l ∧ Conc (vw F w ρ s) ρ (one l) v ∧ (results fn a.tmps).run P w = .ok v w := by
 unfold results;rw [Array.mapM_eq_foldlM];rw [← Array.foldlM_toList];obtain ⟨l, vs, h1, h2, h3⟩ := Uj (P := P) a.tmps (fun x => match x with
  | .tmp t => pure (a.tmps.getD t undef)
  | .cell b t => do loadVar t (← asAddr (a.tmps.getD b undef))) (fun _ => rfl) (fun b t v hv => Xk hv) hR rfl fn.results.toList rs K #[] h hk
 refine ⟨l, _, h1, ?_, (Aa h3).trans rfl⟩;cases l with
 | nil => simp only [ConcL] at h2; subst h2; simp only [one, Conc]; exact ⟨[], rfl, by simp only [ConcL]⟩
 | cons x l =>
   simp only [ConcL] at h2;obtain ⟨v, us, rfl, h4, h5⟩ := h2;cases l with
   | nil => simp only [ConcL] at h5; subst h5; simpa [one] using h4
   | cons y l =>
     have h5' := h5;simp only [ConcL] at h5;obtain ⟨v', us', rfl, h6, h7⟩ := h5;simp only [one, Conc];refine ⟨v :: v' :: us', ?_, by simp only [ConcL]; exact ⟨v, _, rfl, h4, v', us', rfl, h6, h7⟩⟩;simp
theorem Fl : ∀ {args : List SV} {vs : List Value} (k : Nat) (n : Nat), ConcL V ρ args vs → Conc V ρ (lk .dead n (C1 k args)) (if k ≤ n then (vs[n - k]?).getD undef else undef)
 | [], vs, k, n, h => by simp [C1, lk, Conc]
 | x :: l, vs, k, n, h => by
   simp only [ConcL] at h;obtain ⟨v, us, rfl, h1, h2⟩ := h;simp only [C1, lk];split
   · rename_i e; subst e; simp; exact h1
   · rename_i e;have := Fl (k + 1) n h2;by_cases hk : k ≤ n
     · have hk' : k + 1 ≤ n := by omega
       rw [if_pos hk'] at this;rw [if_pos hk];have : n - k = (n - (k + 1)) + 1 := by omega
       rw [this]; simpa using Fl (k + 1) n h2 |> fun q => by rw [if_pos hk'] at q; exact q
     · rw [if_neg (by omega)] at this;rw [if_neg hk]; exact this
theorem RelR.obj (h : RelR F N ρ s a w) {l : Nat} {o : Obj} (o' : Obj) (hl : w.heap[l]? = some o) (ho : o.isCells = false) (hlt : l < F.w0.heap.size) (hM : ¬ F.M0 l) : RelR { F with w0 := F.w0.putObj l o' } N ρ s a (w.putObj l o') := by
 have hlw : l < w.heap.size := (Array.getElem?_eq_some_iff.1 hl).1;have hne : ∀ b, Ba ρ s.h b → b ≠ l := fun b hb e => by
  subst e;rcases h.may b hb with h1 | h1
  · omega
  · exact hM h1
 have hV : (Aj w (F.out ρ s.h)).le (Aj (w.putObj l o') (F.out ρ s.h)) := A5 fun b c ho' hc => by
  refine ⟨ho', ?_⟩;have : b ≠ l := fun e => by
   subst e;unfold Bl at hc;rw [hl] at hc;cases o <;> simp_all [Obj.isCells]
  rw [Be (World.putObj_heap_other this)]; exact hc
 refine ⟨⟨h.fr.os, h.fr.tape, h.fr.output, by simpa using h.fr.size, fun b hb hm => ?_, fun b hb => by simpa using h.fr.hid b hb, ⟨fun p hp => ?_, h.fr.tab.2⟩⟩, fun b hb => by simpa using h.may b hb, fun n x hx => ?_, h.inj, fun n => (h.tmps n).mono hV, h.size, h.defers⟩
 · by_cases e : b = l
   · subst e;rw [World.putObj_heap_same hlw, World.putObj_heap_same hlt]
   · rw [World.putObj_heap_other e, World.putObj_heap_other e];exact h.fr.block b (by simpa using hb) hm
 · have h1 := h.fr.tab.1 p hp;have : p.1 ≠ l := fun e => by
    rw [e] at h1;unfold Bl at h1;rw [← h.fr.block l hlt hM, hl] at h1;cases o <;> simp_all [Obj.isCells]
   show Bl (F.w0.putObj l o') p.1 = _;rw [Be (World.putObj_heap_other this)]; exact h1
 · exact (h.own n x hx).congr hV fun b hb => World.putObj_heap_other (hne b ⟨n, x, hx, hb⟩)
theorem Desc.back {F0 : Fr} (hd : Desc F0 F) (h : RelR F N ρ s a w) (h0 : F0.defs = []) : RelR F0 N ρ s ⟨a.tmps, []⟩ w := by
 have ho : F.out ρ s.h = F0.out ρ s.h := by unfold Fr.out; rw [hd.hid]
 have hb := hd.base;refine ⟨⟨h.fr.os.trans hb.os, h.fr.tape.trans hb.tape, h.fr.output.trans hb.output, Nat.le_trans hb.size h.fr.size, fun b hlt hm => ?_, hb.hid, hb.tab⟩, fun b hbb => hd.may b (h.may b hbb), fun n x hx => by rw [← ho]; exact h.own n x hx, h.inj, fun n => ?_, h.size, h0.symm⟩
 · rw [h.fr.block b (Nat.lt_of_lt_of_le hlt hb.size) fun e => ?_]
   · exact hb.block b hlt hm
   · rcases hd.may b (.inr e) with h1 | h1
     · omega
     · exact hm h1
 · rw [← ho];have := h.tmps n;unfold Fr.val at this ⊢;rw [← hd.x]; exact this
theorem Desc.refl {F0 : Fr} (hR : F0.ok F0.w0) (hm : ∀ b, F0.M0 b → b < F0.w0.heap.size) (h0 : F0.defs = []) : Desc F0 F0 := ⟨hR, hm, fun _ h => h, rfl, rfl, by rw [h0]; trivial⟩
theorem Rn {fn : Func} {rs : List Rv} (h5 : Af (fn.results.toList.map (Pm P)) = some rs) {F0 : Fr} (h0 : F0.defs = []) {R : Ending → World → Prop} {tm : Array Value} {K : List SV → Prop} (hk : E7 s rs K)
 (hend : ∀ l v w, K l → RelR F0 N ρ s ⟨tm, []⟩ w → Conc (vw F0 w ρ s) ρ (one l) v → R (.returned v) w) :
 ∀ (ds : List Deferred) {F : Fr} {w : World}, Desc F0 { F with defs := [] } → Ab8 F0 F ds → RelR { F with defs := [] } N ρ s ⟨tm, []⟩ w → LeavesInM (Gd none) 0 P fn tm R ds .returning w
 | [], F, w, hd, _, hR => by
   have hR' := hd.back hR h0;obtain ⟨l, v, k1, k2, k3⟩ := Q4 (P := P) hR' h5 hk;exact ⟨v, k3, hend l v w k1 hR' k2⟩
 | d :: ds, F, w, hd, hm, hR => by
   obtain ⟨⟨D, rfl, g1, g2, g3, g4, g5⟩, hm⟩ := hm;have hw : w.heap[D]? = some (.deferred (some [])) := (hR.fr.block D g2 g3).trans g4;refine ⟨by simp, .inl ⟨D, _, rfl, run_takeDeferred hw, ?_⟩⟩;have hR2 := hR.obj (.deferred none) hw rfl g2 g3;refine Rn h5 h0 hk hend ds (F := { F with w0 := F.w0.putObj D (.deferred none) }) ⟨?_, fun b hb => by simpa using hd.m0 b hb, fun b hb => hd.may b (by simpa using hb), hd.hid, hd.x, trivial⟩ ?_ hR2
   · have hb := hd.base;refine ⟨hb.os, hb.tape, hb.output, by simpa using hb.size, fun b hlt hm => ?_, hb.hid, hb.tab⟩;show (F.w0.putObj D (.deferred none)).heap[b]? = _;rw [World.putObj_heap_other (by omega)];exact hb.block b hlt hm
   · clear hR hR2 hw
     induction ds with
     | nil => trivial
     | cons e ds ih =>
       obtain ⟨⟨E, rfl, k1, k2, k3, k4, k5⟩, hm⟩ := hm;have hne : E ≠ D := fun h => g5 _ List.mem_cons_self (by rw [h]);exact ⟨⟨E, rfl, k1, by simpa using k2, k3, by rw [World.putObj_heap_other hne]; exact k4, k5⟩, ih hm (fun e he => g5 e (List.mem_cons_of_mem _ he))⟩
theorem Ie (hm : P.follows .mixedOrders = true) {f N' : Nat} {rs : List Rv} {c : C} (hf : Bj P f = some (N', rs, c)) {F0 : Fr} {s0 : FS} {vs : List Value} (h0 : F0.defs = []) (hok : F0.ok F0.w0) (hm0 : ∀ b, F0.M0 b → b < F0.w0.heap.size)
 (hR : RelR F0 N' ρ s0 { tmps := (⟨vs⟩ : Array Value) ++ Array.replicate (N' - (⟨vs⟩ : Array Value).size) undef, defers := [] } w) {R : SV → FS → Prop} {Q : Bi} (hQ : ∀ e s, Q e s → (e = .normal ∨ e = .ret) ∧ Mq rs R s) (hrun : sx (env P F0 N') c Q s0) :
 Calls P f ⟨vs⟩ w fun e w' => ∃ v ρ' s' a' y, e = .returned v ∧ RelR F0 N' ρ' s' a' w' ∧ Conc (vw F0 w' ρ' s') ρ' y v ∧ R y s' := by
 obtain ⟨fn, code, h1, h2, h3, h4, h5, h6⟩ := Qb hf;subst h4;refine callsIn_wide.1 (callsIn_of_wp_marks (F := Gd none) (n := 0) h1 h3 trivial (wpIn_mono (Ks hm h6 hrun ⟨F0, Desc.refl hok hm0 h0, ρ, hR⟩) fun e a' w' he => ?_));have fin : (∃ s, RelX (Desc F0) fn.ntmps s a' w' ∧ Mq rs R s) → LeavesInM (Gd none) 0 P fn a'.tmps (fun e w' => ∃ v ρ' s' a' y, e = .returned v ∧ RelR F0 fn.ntmps ρ' s' a' w' ∧ Conc (vw F0 w' ρ' s') ρ' y v ∧ R y s') a'.defers .returning w' := fun ⟨s1, hX, s', hwk, hr⟩ => by
  obtain ⟨F, hd, ρ', hR'⟩ := hX.wk hwk;rw [hR'.defers];refine Rn h5 h0 hr (fun l v w k1 k2 k3 => ⟨v, ρ', s', _, _, rfl, k2, k3, k1⟩) F.defs (F := F) ⟨hd.base, hd.m0, hd.may, hd.hid, hd.x, trivial⟩ hd.marks ?_;exact ⟨⟨hR'.fr.os, hR'.fr.tape, hR'.fr.output, hR'.fr.size, hR'.fr.block, hR'.fr.hid, hR'.fr.tab⟩, hR'.may, hR'.own, hR'.inj, hR'.tmps, hR'.size, rfl⟩
 cases e with
 | normal => obtain ⟨s, h, hq⟩ := he; exact fin ⟨s, h, (hQ _ _ hq).2⟩
 | ret => obtain ⟨s, h, hq⟩ := he; exact fin ⟨s, h, (hQ _ _ hq).2⟩
 | exit id =>
   obtain ⟨s, h, hq⟩ := he;rcases (hQ _ _ hq).1 with e | e <;> cases e
 | goto _ => exact he.elim
 | panic _ => exact he.elim
 | outgrown => exact he.elim
theorem Wk.same (s : FS) : Wk s s := .weak ⟨fun n => Imp.refl _, fun n b hb => by
 rw [hb];simp only [Ww];cases b with
 | var x => exact ⟨Imp.refl _, rfl⟩
 | row sz es => exact ⟨rfl, rfl⟩
 | rowc sz es c => exact ⟨rfl, rfl, rfl⟩
 | it l p => exact ⟨rfl, rfl⟩⟩
theorem Mr {rs : List Rv} {R : SV → FS → Prop} (e : Ex) (s : FS) (h : Ajx rs R e s) : (e = .normal ∨ e = .ret) ∧ Mq rs R s := by
 cases e with
 | normal => exact ⟨.inl rfl, s, .same s, h⟩
 | ret => exact ⟨.inr rfl, s, .same s, h⟩
 | exit _ => exact h.elim
theorem Ag2 {rs : List Rv} {R : SV → FS → Prop} (e : Ex) (s : FS) (h : Afc rs R e s) : (e = .normal ∨ e = .ret) ∧ Mq rs R s := by
 cases e with
 | normal => exact ⟨.inl rfl, h⟩
 | ret => exact ⟨.inr rfl, h⟩
 | exit _ => exact h.elim
theorem Tk (hm : P.follows .mixedOrders = true) {f N' : Nat} {rs : List Rv} {c : C} (hf : Bj P f = some (N', rs, c)) {F0 : Fr} {s0 : FS} {vs : List Value} (h0 : F0.defs = []) (hok : F0.ok F0.w0) (hm0 : ∀ b, F0.M0 b → b < F0.w0.heap.size)
 (hR : RelR F0 N' ρ s0 { tmps := (⟨vs⟩ : Array Value) ++ Array.replicate (N' - (⟨vs⟩ : Array Value).size) undef, defers := [] } w) {R : SV → FS → Prop} (hrun : sx (env P F0 N') c (Ajx rs R) s0) :
 Calls P f ⟨vs⟩ w fun e w' => ∃ v ρ' s' a' y, e = .returned v ∧ RelR F0 N' ρ' s' a' w' ∧ Conc (vw F0 w' ρ' s') ρ' y v ∧ R y s' := Ie hm hf h0 hok hm0 hR Mr hrun
theorem Xg (hm : P.follows .mixedOrders = true) {f : Nat} {rs : List Rv} {c : C} (hf : Bj P f = some (N, rs, c)) {hid : Nat → Prop} (hhid : ∀ b, hid b → b < w.heap.size) (htw : T8 w) {args : List SV} {vs : List Value} (hlen : args.length ≤ N)
 (hc : ConcL (Aj w hid) ρ args vs) {R : SV → FS → Prop} {Q : Bi} (hQ : ∀ e s, Q e s → (e = .normal ∨ e = .ret) ∧ Mq rs R s) (hrun : sx (env P ⟨w, fun _ => False, hid, fun _ => undef, []⟩ N) c Q (mk (C1 0 args) [])) :
 Calls P f ⟨vs⟩ w fun e w' => ∃ v ρ' s' a' y, e = .returned v ∧ RelR ⟨w, fun _ => False, hid, fun _ => undef, []⟩ N ρ' s' a' w' ∧ Conc (vw ⟨w, fun _ => False, hid, fun _ => undef, []⟩ w' ρ' s') ρ' y v ∧ R y s' := by
 obtain ⟨fn, code, h1, h2, h3, h4, h5, h6⟩ := Qb hf;subst h4;have hN := Qc hf;have hvl : vs.length = args.length := by
  clear hrun hlen
  induction args generalizing vs with
  | nil => simp only [ConcL] at hc; subst hc; rfl
  | cons x l ih =>
    simp only [ConcL] at hc;obtain ⟨v, us, rfl, _, h⟩ := hc;simp [ih h]
 have hR : RelR ⟨w, fun _ => False, hid, fun _ => undef, []⟩ fn.ntmps ρ (mk (C1 0 args) []) { tmps := (⟨vs⟩ : Array Value) ++ Array.replicate (fn.ntmps - (⟨vs⟩ : Array Value).size) undef, defers := [] } w := by
  have how : ∀ b, ¬ Ba ρ (mk (C1 0 args) []).h b := fun b ⟨n, x, h, _⟩ => by simp [mk, lk] at h
  have hV : (Aj w hid).le (Aj w ((⟨w, fun _ => False, hid, fun _ => undef, []⟩ : Fr).out ρ (mk (C1 0 args) []).h)) :=
   A5 fun b c ho hc => ⟨fun hb => hb.elim (how b) ho, hc⟩
  refine ⟨⟨rfl, rfl, rfl, Nat.le_refl _, fun _ _ _ => rfl, fun b hb => ⟨hhid b hb, id⟩, ⟨htw, fun _ _ => id⟩⟩, fun b hb => absurd hb (how b), fun n x hx => by simp [mk, lk] at hx, fun n m x y b hx => by simp [mk, lk] at hx, fun n => ?_, by simp; omega, rfl⟩;have := (Fl 0 n hc).mono hV;simp only [Nat.zero_le, if_true, Nat.sub_zero] at this;simp only [mk];have he : ((⟨vs⟩ : Array Value) ++ Array.replicate (fn.ntmps - (⟨vs⟩ : Array Value).size) undef).getD n undef = (vs[n]?).getD undef := by
   rw [Array.getD_eq_getD_getElem?];by_cases hn : n < vs.length
   · rw [Array.getElem?_append_left (by simpa using hn)]; simp
   · rw [Array.getElem?_append_right (by simpa using hn)];rw [List.getElem?_eq_none (by omega)];simp only [Array.getElem?_replicate, Option.getD_none];split <;> rfl
  unfold Fr.val;by_cases hb : n < Ii
  · rw [if_pos hb, he]; exact this
  · rw [if_neg hb];rw [List.getElem?_eq_none (by omega)] at this; exact this
 exact Ie hm hf rfl (by exact ⟨rfl, rfl, rfl, Nat.le_refl _, fun _ _ _ => rfl, fun b hb => ⟨hhid b hb, id⟩, ⟨htw, fun _ _ => id⟩⟩) (fun b (h : False) => h.elim) hR hQ hrun
end Go.Proofs.YthleeikkpjiicaaDoor.Fw
namespace Go.Proofs.YthleeikkpjiicaaDoor.Fw
open Go.RowKit
variable {P : Program} {F : Fr} {N : Nat} {ρ ρ' : Nat → Value} {s : FS} {a : Act} {w w' : World} {V V' : View}
mutual
def SV.closed : SV → Bool
 | .pv _ => true
 | .vec _ _ => true
 | .agg l => SV.closedL l
 | .tup l => SV.closedL l
 | .pi _ _ _ _ => true
 | .fn _ l => SV.closedL l
 | .dead => true
 | _ => false
def SV.closedL : List SV → Bool
 | [] => true
 | x :: l => x.closed && SV.closedL l
end
mutual
theorem Bh (hV : V.le V') : ∀ {x : SV} {v : Value}, x.closed = true → Conc V ρ x v → Conc V' ρ' x v
 | .pv x, v, _, h => by simp only [Conc] at *; exact h.mono hV
 | .vec n cs, v, _, h => by simp only [Conc] at *; obtain ⟨vs, a, b, c⟩ := h; exact ⟨vs, a, b, c.mono hV⟩
 | .agg l, v, hc, h => by simp only [Conc, SV.closed] at *; obtain ⟨vs, a, b⟩ := h; exact ⟨vs, a, Jk hV hc b⟩
 | .tup l, v, hc, h => by simp only [Conc, SV.closed] at *; obtain ⟨vs, a, b⟩ := h; exact ⟨vs, a, D0 hV hc b⟩
 | .pi sz es i off, v, _, h => by
   have := Conc.mono (ρ := ρ) hV h;simp only [Conc] at *; exact this
 | .fn f l, v, hc, h => by simp only [Conc, SV.closed] at *; obtain ⟨vs, a, b⟩ := h; exact ⟨vs, a, D0 hV hc b⟩
 | .dead, v, _, h => by simp only [Conc]
 | .p _ _, v, hc, h => by simp [SV.closed] at hc
 | .ps _ _, v, hc, h => by simp [SV.closed] at hc
 | .pr _ _ _ _, v, hc, h => by simp [SV.closed] at hc
 | .os _, v, hc, h => by simp [SV.closed] at hc
 | .ov _ _ _ _, v, hc, h => by simp [SV.closed] at hc
theorem D0 (hV : V.le V') : ∀ {l : List SV} {vs : List Value}, SV.closedL l = true → ConcL V ρ l vs → ConcL V' ρ' l vs
 | [], vs, _, h => by simp only [ConcL] at *; exact h
 | x :: l, vs, hc, h => by
   simp only [ConcL, SV.closedL, Bool.and_eq_true] at *;obtain ⟨u, us, a, b, c⟩ := h;exact ⟨u, us, a, Bh hV hc.1 b, D0 hV hc.2 c⟩
theorem Jk (hV : V.le V') : ∀ {l : List SV} {vs : List Value}, SV.closedL l = true → Cells V ρ l vs → Cells V' ρ' l vs
 | [], vs, _, h => by simp only [Cells] at *; exact h
 | x :: l, vs, hc, h => by
   simp only [Cells, SV.closedL, Bool.and_eq_true] at *;obtain ⟨u, us, a, b, c, d, e⟩ := h;exact ⟨u, us, a, Bh hV hc.1 b, c, d, Jk hV hc.2 e⟩
end
def PV.flat : PV → Bool
 | .sl _ _ es => es.isEmpty
 | _ => true
mutual
def SV.scalar : SV → Bool
 | .pv x => x.flat
 | .vec _ cs => cs.all PV.flat
 | .agg l => SV.scalarL l
 | .tup l => SV.scalarL l
 | _ => false
def SV.scalarL : List SV → Bool
 | [] => true
 | x :: l => x.scalar && SV.scalarL l
end
theorem Oy {x : PV} {v : Value} (hf : x.flat = true) (h : PConc V x v) : PConc V' x v := by
 cases h with
 | i k n => exact .i k n
 | b x => exact .b x
 | s l => exact .s l
 | v _ h => exact .v _ h
 | sl full sz es a cap cs bl off arr hcap hfull hsz ha hcs hel =>
   have he : es = [] := by cases es <;> simp_all [PV.flat]
   subst he;exact .sl full sz [] a cap cs bl off arr hcap hfull hsz (fun h => absurd rfl h) hcs (fun i j c x h => by simp at h)
theorem H6 {cs : List PV} {vs : List Value} (hf : cs.all PV.flat = true) (h : PCells V cs vs) : PCells V' cs vs :=
 ⟨h.1, fun j x hx => by
  obtain ⟨v, h1, h2⟩ := h.2 j x hx;exact ⟨v, h1, Oy (List.all_eq_true.1 hf x (List.mem_of_getElem? hx)) h2⟩⟩
mutual
theorem Gq : ∀ {x : SV} {v : Value}, x.scalar = true → Conc V ρ x v → Conc V' ρ' x v
 | .pv x, v, hc, h => by
   simp only [Conc, SV.scalar] at hc h ⊢;exact Oy hc h
 | .vec n cs, v, hc, h => by
   simp only [Conc, SV.scalar] at hc h ⊢;obtain ⟨vs, a, b, c⟩ := h;exact ⟨vs, a, b, H6 hc c⟩
 | .agg l, v, hc, h => by simp only [Conc, SV.scalar] at *; obtain ⟨vs, a, b⟩ := h; exact ⟨vs, a, Iw hc b⟩
 | .tup l, v, hc, h => by simp only [Conc, SV.scalar] at *; obtain ⟨vs, a, b⟩ := h; exact ⟨vs, a, Iv hc b⟩
 | .pi _ _ _ _, v, hc, h => by simp [SV.scalar] at hc
 | .fn _ _, v, hc, h => by simp [SV.scalar] at hc
 | .dead, v, hc, h => by simp [SV.scalar] at hc
 | .p _ _, v, hc, h => by simp [SV.scalar] at hc
 | .ps _ _, v, hc, h => by simp [SV.scalar] at hc
 | .pr _ _ _ _, v, hc, h => by simp [SV.scalar] at hc
 | .os _, v, hc, h => by simp [SV.scalar] at hc
 | .ov _ _ _ _, v, hc, h => by simp [SV.scalar] at hc
theorem Iv : ∀ {l : List SV} {vs : List Value}, SV.scalarL l = true → ConcL V ρ l vs → ConcL V' ρ' l vs
 | [], vs, _, h => by simp only [ConcL] at *; exact h
 | x :: l, vs, hc, h => by
   simp only [ConcL, SV.scalarL, Bool.and_eq_true] at *;obtain ⟨u, us, a, b, c⟩ := h;exact ⟨u, us, a, Gq hc.1 b, Iv hc.2 c⟩
theorem Iw : ∀ {l : List SV} {vs : List Value}, SV.scalarL l = true → Cells V ρ l vs → Cells V' ρ' l vs
 | [], vs, _, h => by simp only [Cells] at *; exact h
 | x :: l, vs, hc, h => by
   simp only [Cells, SV.scalarL, Bool.and_eq_true] at *;obtain ⟨u, us, a, b, c, d, e⟩ := h;exact ⟨u, us, a, Gq hc.1 b, c, d, Iw hc.2 e⟩
end
def Zu (x : SV) (off : Nat) : Option (List PV) → SV
 | some cs => .pi x.width [cs] 0 off
 | none => .dead
mutual
def Fz (h : Nat → Option Blk) : SV → SV
 | .os n => match h n with
   | some (.row sz es) => .pv (.sl false sz es)
   | _ => .dead
 | .p n off => match h n with
   | some (.var x) => Zu x off x.cells?
   | _ => .dead
 | .fn f l => .fn f (Br h l)
 | x => x
def Br (h : Nat → Option Blk) : List SV → List SV
 | [] => []
 | x :: l => Fz h x :: Br h l
end
mutual
def Gg : SV → Bool
 | .os _ => true
 | .p _ _ => true
 | .fn _ l => A4 l
 | x => x.closed
def A4 : List SV → Bool
 | [] => true
 | x :: l => Gg x && A4 l
end
mutual
def I4 : SV → List Nat
 | .os n => [n]
 | .p n _ => [n]
 | .fn _ l => Bc l
 | _ => []
def Bc : List SV → List Nat
 | [] => []
 | x :: l => I4 x ++ Bc l
end
def Av (s : FS) (ns : List Nat) : FS := ⟨s.t, fun n => if n ∈ ns then none else s.h n⟩
theorem Ol (h : Nat → Option Blk) : ∀ l : List SV, (Br h l).length = l.length
 | [] => by simp only [Br]
 | x :: l => by simp only [Br, List.length_cons, Ol h l]
theorem Pe (s : FS) (ns : List Nat) : Weak s (Av s ns) := ⟨fun n => .refl _, fun n b' hb => by
 simp only [Av] at hb;split at hb
 · cases hb
 · rw [hb]; simp only [Ww];cases b' with
   | var x => exact ⟨.refl _, rfl⟩
   | row sz es => exact ⟨rfl, rfl⟩
   | rowc sz es c => exact ⟨rfl, rfl, rfl⟩
   | it l p => exact ⟨rfl, rfl⟩⟩
theorem Cs (F : Fr) (w : World) (ρ : Nat → Value) (s : FS) (ns : List Nat) : (vw F w ρ s).le (vw F w ρ (Av s ns)) := A5 fun b c ho hc => ⟨fun hb => ho (hb.imp_left fun ⟨n, x, h1, h2⟩ => by
 simp only [Av] at h1;split at h1
 · cases h1
 · exact ⟨n, x, h1, h2⟩), hc⟩
mutual
theorem Wh (hR : RelR F N ρ s a w) {h : Nat → Option Blk} {ns : List Nat} : ∀ {x : SV} {v : Value}, Gg x = true → (∀ n ∈ tn x, s.h n = h n) → (∀ n ∈ I4 x, n ∈ ns) →
 Conc (vw F w ρ s) ρ x v → Conc (vw F w ρ (Av s ns)) ρ (Fz h x) v
 | .os n, v, hl, hh, hn, h1 => by
   simp only [Fz];have hhn := hh n (by simp [tn]);have hns := hn n (by simp [I4]);split
   · rename_i sz es hrow;rw [← hhn] at hrow;simp only [Conc] at h1 ⊢;rw [h1.1];have := Mo hR hrow;refine this.mono (A5 fun b c ho hc => ⟨fun hb => ho (hb.imp_left fun ⟨m, x, g1, g2⟩ => ?_), hc⟩);simp only [Av] at g1;split at g1
     · cases g1
     · rename_i hm;refine ⟨m, x, ?_, g2⟩;simp only [FS.seth];rw [if_neg fun e => hm (by rw [e]; exact hns)];exact g1
   · simp only [Conc]
 | .p n off, v, hl, hh, hn, h1 => by
   simp only [Fz];have hhn := hh n (by simp [tn]);have hns := hn n (by simp [I4]);split
   · rename_i x hvar;rw [← hhn] at hvar;cases hcs : x.cells? with
     | none => simp only [Zu, Conc]
     | some cs =>
       simp only [Conc] at h1;obtain ⟨b, hb, rfl⟩ := h1;obtain ⟨b', vs, ty, fr, u, k1, k2, k3, k4, k5, k6, k7⟩ := hR.own n _ hvar;rw [k1] at hb;simp only [Value.pointer.injEq, Option.some.injEq, Addr.mk.injEq, and_true] at hb;subst hb;have hp := Conc.cells k4 hcs;simp only [Zu, Conc];refine ⟨b', 0, ⟨vs⟩, by simp, ?_, fun c hc => ?_⟩
       · unfold vw Aj;rw [if_neg]
         · unfold Bl; rw [k2]
         · rintro (⟨m, y, g1, g2⟩ | g)
           · simp only [Av] at g1;split at g1
             · cases g1
             · rename_i hm;exact hm ((hR.inj m n y _ b' g1 hvar g2 (by rw [k1]; rfl)) ▸ hns)
           · exact hR.shown ⟨n, _, hvar, by rw [k1]; rfl⟩ g
       · simp only [List.getElem?_cons_zero, Option.some.injEq] at hc;subst hc;have hl : cs.length = x.width := by rw [hp.1, ← k5]; exact k6
         refine ⟨hl, ?_⟩;have e : (vs.drop (0 + 0 * x.width)).take x.width = vs := by simp [k6 ▸ List.take_length]
         rw [e, k5];exact hp.mono (Cs F w ρ s ns)
   · simp only [Conc]
 | .fn f l, v, hl, hh, hn, h1 => by
   simp only [Fz, Conc] at *;obtain ⟨vs, rfl, h2⟩ := h1;exact ⟨vs, rfl, H5 hR (by simpa [Gg] using hl) (fun n hm => hh n (by simp only [tn]; exact hm)) (fun n hm => hn n (by simpa [I4] using hm)) h2⟩
 | .pv x, v, hl, _, _, h1 => Bh (Cs F w ρ s ns) rfl h1
 | .vec n cs, v, hl, _, _, h1 => Bh (Cs F w ρ s ns) rfl h1
 | .agg l, v, hl, _, _, h1 => by
   have e : Fz h (.agg l) = .agg l := by simp only [Fz]
   rw [e];exact Bh (Cs F w ρ s ns) (by simpa only [Gg] using hl) h1
 | .tup l, v, hl, _, _, h1 => by
   have e : Fz h (.tup l) = .tup l := by simp only [Fz]
   rw [e];exact Bh (Cs F w ρ s ns) (by simpa only [Gg] using hl) h1
 | .pi _ _ _ _, v, hl, _, _, h1 => Bh (Cs F w ρ s ns) rfl h1
 | .dead, v, hl, _, _, h1 => Bh (Cs F w ρ s ns) rfl h1
 | .ps _ _, v, hl, _, _, h1 => by simp [Gg, SV.closed] at hl
 | .pr _ _ _ _, v, hl, _, _, h1 => by simp [Gg, SV.closed] at hl
 | .ov _ _ _ _, v, hl, _, _, h1 => by simp [Gg, SV.closed] at hl
theorem H5 (hR : RelR F N ρ s a w) {h : Nat → Option Blk} {ns : List Nat} : ∀ {args : List SV} {vs : List Value}, A4 args = true → (∀ n ∈ Ax args, s.h n = h n) → (∀ n ∈ Bc args, n ∈ ns) →
 ConcL (vw F w ρ s) ρ args vs → ConcL (vw F w ρ (Av s ns)) ρ (Br h args) vs
 | [], vs, _, _, _, hc => by simp only [ConcL, Br] at *; exact hc
 | x :: l, vs, hl, hh, hn, hc => by
   simp only [ConcL, Br, A4, Bool.and_eq_true, Bc, List.mem_append] at *;obtain ⟨u, us, rfl, h1, h2⟩ := hc;exact ⟨u, us, rfl, Wh hR hl.1 (fun n hm => hh n (by simp only [Ax, List.mem_append]; exact .inl hm)) (fun n hm => hn n (.inl hm)) h1, H5 hR hl.2 (fun n hm => hh n (by simp only [Ax, List.mem_append]; exact .inr hm)) (fun n hm => hn n (.inr hm)) h2⟩
end
structure After (F : Fr) (N : Nat) (ρ : Nat → Value) (s : FS) (ns : List Nat) (a : Act) (w : World) (R : SV → FS → Prop) (v : Value) (w' : World) : Prop where
 grew : Grew w w'
 out : ∃ (N' : Nat) (ρ' : Nat → Value) (s' : FS) (a' : Act) (y : SV), RelR ⟨w, fun _ => False, F.out ρ (Av s ns).h, fun _ => undef, []⟩ N' ρ' s' a' w' ∧ Conc (vw ⟨w, fun _ => False, F.out ρ (Av s ns).h, fun _ => undef, []⟩ w' ρ' s') ρ' y v ∧ R y s'
theorem Gb (hm : P.follows .mixedOrders = true) {f N' : Nat} {rs : List Rv} {c : C} (hf : Bj P f = some (N', rs, c)) {args : List SV} {h : Nat → Option Blk} (hlen : args.length ≤ N') (hl : A4 args = true)
 {R : SV → FS → Prop} {Q : Bi} (hQ : ∀ e s, Q e s → (e = .normal ∨ e = .ret) ∧ Mq rs R s) (hrun : ∀ F, sx (env P F N') c Q (mk (C1 0 (Br h args)) []))
 (hR : RelR F N ρ s a w) (hh : ∀ n ∈ Ax args, s.h n = h n) {vs : List Value} (hc : ConcL (vw F w ρ s) ρ args vs) :
 Calls P f ⟨vs⟩ w fun e w' => ∃ v, e = .returned v ∧ After F N ρ s (Bc args) a w R v w' := by
 have hRb := hR.weak (Pe s (Bc args));have hcb := H5 hR (ns := Bc args) hl hh (fun _ h => h) hc;refine Calls.mono (Xg hm hf (hid := F.out ρ (Av s (Bc args)).h) (fun b hb => ?_) hR.tabW (by rw [Ol]; exact hlen) hcb hQ (hrun _)) fun e w' he => ?_
 · rcases hb with hb | hb
   · exact hRb.lt hb
   · exact Nat.lt_of_lt_of_le (hR.fr.hid b hb).1 hR.fr.size
 · obtain ⟨v, ρ', s', a', y, rfl, h1, h2, h3⟩ := he;exact ⟨v, rfl, ⟨h1.fr.os, h1.fr.tape, h1.fr.output, h1.fr.size, fun b hb => h1.fr.block b hb id⟩, N', ρ', s', a', y, h1, h2, h3⟩
theorem T6 {N' : Nat} {ρ' : Nat → Value} {s' : FS} {a' : Act} (hR' : RelR ⟨w, fun _ => False, F.out ρ s.h, fun _ => undef, []⟩ N' ρ' s' a' w') : (vw ⟨w, fun _ => False, F.out ρ s.h, fun _ => undef, []⟩ w' ρ' s').le (vw F w' ρ s) :=
 A5 fun b c ho hc => ⟨fun hb => ho (.inr hb), hc⟩
mutual
theorem Wi : ∀ {x : SV}, x.closed = true → I4 x = [] ∧ Gg x = true ∧ ∀ h, Fz h x = x
 | .fn f l, hc => by
   simp only [SV.closed] at hc;obtain ⟨h1, h2, h3⟩ := Cq hc;exact ⟨by simp only [I4]; exact h1, by simp only [Gg]; exact h2, fun h => by simp only [Fz, h3 h]⟩
 | .pv _, hc => ⟨rfl, rfl, fun h => by simp only [Fz]⟩
 | .vec _ _, hc => ⟨rfl, rfl, fun h => by simp only [Fz]⟩
 | .agg _, hc => ⟨rfl, by simp only [Gg]; exact hc, fun h => by simp only [Fz]⟩
 | .tup _, hc => ⟨rfl, by simp only [Gg]; exact hc, fun h => by simp only [Fz]⟩
 | .pi _ _ _ _, hc => ⟨rfl, rfl, fun h => by simp only [Fz]⟩
 | .dead, hc => ⟨rfl, rfl, fun h => by simp only [Fz]⟩
 | .p _ _, hc => by simp [SV.closed] at hc
 | .ps _ _, hc => by simp [SV.closed] at hc
 | .pr _ _ _ _, hc => by simp [SV.closed] at hc
 | .os _, hc => by simp [SV.closed] at hc
 | .ov _ _ _ _, hc => by simp [SV.closed] at hc
theorem Cq : ∀ {args : List SV}, SV.closedL args = true → Bc args = [] ∧ A4 args = true ∧ ∀ h, Br h args = args
 | [], _ => ⟨by simp only [Bc], by simp only [A4], fun _ => by simp only [Br]⟩
 | x :: l, hc => by
   simp only [SV.closedL, Bool.and_eq_true] at hc;obtain ⟨g1, g2, g3⟩ := Wi hc.1;obtain ⟨h1, h2, h3⟩ := Cq hc.2;exact ⟨by simp only [Bc, g1, h1]; rfl, by simp only [A4, g2, h2]; rfl, fun h => by simp only [Br, g3 h, h3 h]⟩
end
theorem Gk (s : FS) : Av s [] = s := by simp [Av]
theorem Cj {f : Nat} {rs : List Rv} {c : C} (hf : Bj P f = some (N, rs, c)) : L0 P f := by
 obtain ⟨fn, code, h1, h2, h3, _⟩ := Qb hf;exact ⟨fn, h1, h2, by rw [h3]; rfl⟩
theorem A7 (hm : P.follows .mixedOrders = true) {f N' : Nat} {rs : List Rv} {c : C} (hf : Bj P f = some (N', rs, c)) {args : List SV} {h : Nat → Option Blk} {d : Nat} {x : SV} (hlen : args.length ≤ N')
 (hargs : SV.closedL args = true) (hx : x.closed = true) (hrun : ∀ F, sx (env P F N') c (Sk rs fun y _ => y = x) (mk (C1 0 args) [])) : FunOk P f args h d x [] := by
 obtain ⟨h1, h2, h3⟩ := Cq hargs;refine ⟨Cj hf, fun F N ρ s a w hR hh vs hc => ?_⟩;refine Calls.mono (Gb hm hf (h := h) hlen h2 Mr (by rw [h3]; exact hrun) hR hh hc) fun e w' he => ?_;obtain ⟨v, rfl, hg, N'', ρ', s', a', y, hR', hy, rfl⟩ := he;rw [h1, Gk] at hR' hy;exact ⟨v, ρ, rfl, hR.grew hg, Bh (T6 hR') hx hy⟩
theorem Cu (hm : P.follows .mixedOrders = true) {f N' : Nat} {rs : List Rv} {c : C} (hf : Bj P f = some (N', rs, c)) {args : List SV} {h : Nat → Option Blk} {d : Nat} {x : SV} (hlen : args.length ≤ N')
 (hargs : A4 args = true) (hx : x.scalar = true) (hrun : ∀ F, sx (env P F N') c (Sk rs fun y _ => y = x) (mk (C1 0 (Br h args)) [])) : FunOk P f args h d x [] := by
 refine ⟨Cj hf, fun F N ρ s a w hR hh vs hc => ?_⟩;refine Calls.mono (Gb hm hf (h := h) hlen hargs Mr hrun hR hh hc) fun e w' he => ?_;obtain ⟨v, rfl, hg, N'', ρ', s', a', y, hR', hy, rfl⟩ := he;exact ⟨v, ρ, rfl, hR.grew hg, Gq hx hy⟩
theorem P8 (hm : P.follows .mixedOrders = true) {f N' : Nat} {rs : List Rv} {c : C} (hf : Bj P f = some (N', rs, c)) {args : List SV} {h : Nat → Option Blk} {d : Nat} {sz : Nat} {es : List (List PV)} (hlen : args.length ≤ N')
 (hargs : A4 args = true) (hx : SV.closedL args = true ∨ ∀ c ∈ es, c.all PV.flat = true) (hrun : ∀ F, sx (env P F N') c (Sk rs fun y g => ∃ n, y = .os n ∧ g n = some (.row sz es)) (mk (C1 0 (Br h args)) [])) :
 FunOk P f args h d (.os d) [.new d (.row sz es)] := by
 refine ⟨Cj hf, fun F N ρ s a w hR hh vs hc => ?_⟩;refine Calls.mono (Gb hm hf (h := h) hlen hargs Mr hrun hR hh hc) fun e w' he => ?_;obtain ⟨v, rfl, hg, N'', ρ', s', a', y, hR', hy, n, rfl, hn⟩ := he;simp only [Conc] at hy;obtain ⟨base, cap, g1, g2, g3, g4, g5⟩ := hR'.own n _ hn;have hown : ∀ b, Bg (ρ' n) = some b → w.heap.size ≤ b ∧ b < w'.heap.size := fun b hb => by
  have ho : Ba ρ' s'.h b := ⟨n, _, hn, hb⟩
  exact ⟨(hR'.may b ho).resolve_right id, hR'.lt ho⟩
 have hnew := hR.adopt hg d (.row sz es) (ρ' n) hown fun hV => by
  refine ⟨base, cap, by rw [Am]; exact g1, g2, g3, g4, fun hcap => ?_⟩;obtain ⟨b, vs', ty, fr, k1, k2, k3, k4, k5, k6⟩ := g5 hcap;refine ⟨b, vs', ty, fr, k1, k2, k3, k4, k5, fun i c hi => ?_⟩;rcases hx with hx | hx
  · obtain ⟨e1, _, _⟩ := Cq hx;rw [e1, Gk] at hR' k6;refine (k6 i c hi).mono (A5 fun b' c' ho hc' => ⟨fun hb' => ?_, hc'⟩);rcases hb' with ⟨m, z, hm1, hm2⟩ | hb'
    · by_cases hmd : m = d
      · subst hmd;rw [Am] at hm2;exact ho (.inl ⟨n, _, hn, hm2⟩)
      · rw [A0 hmd] at hm2;simp only [FS.seth, FS.kill, hmd, if_false] at hm1;obtain ⟨z', hz', _⟩ := Option.map_eq_some_iff.1 hm1;exact ho (.inr (.inl ⟨m, z', hz', hm2⟩))
    · exact ho (.inr (.inr hb'))
  · exact H6 (hx c (List.mem_of_getElem? hi)) (k6 i c hi)
 refine ⟨v, _, rfl, hnew.1, ?_⟩;simp only [Conc];exact ⟨by rw [Am]; exact hy.1, hy.2⟩
end Go.Proofs.YthleeikkpjiicaaDoor.Fw
namespace Go.Proofs.YthleeikkpjiicaaDoor.Fw
open Go.RowKit
theorem Adu {α : Type} (I : α → FS) (J : α → Prop) (m : α → Nat) (x : α) (Q : Bi) (s) : Uu I J m x Q .normal s = ∃ y, J y ∧ m y < m x ∧ Wk s (I y) := (rfl)
theorem Adv {α : Type} (I : α → FS) (J : α → Prop) (m : α → Nat) (x : α) (Q : Bi) (s i) : Uu I J m x Q (.exit i) s = Q (.exit i) s := (rfl)
theorem Adt {α : Type} (I : α → FS) (J : α → Prop) (m : α → Nat) (x : α) (Q : Bi) (s) : Uu I J m x Q .ret s = Q .ret s := (rfl)
theorem Ag6 (rs R s) : Sk rs R .normal s = E7 s rs fun l => R (one l) s.h := (rfl)
theorem Ag5 (rs R s) : Sk rs R .ret s = E7 s rs fun l => R (one l) s.h := (rfl)
theorem Yz (s K) : E7 s [] K = K [] := (rfl)
theorem Ag7 (s n rs K) : E7 s (.t n :: rs) K = E7 s rs fun l => K (s.t n :: l) := (rfl)
def Uk (s : FS) (rs : List Rv) (K : List SV → Prop) : KK := fun x u => u = [] ∧ E7 s rs fun l => K (x :: l)
theorem Ag8 (s a size ag rs K) : E7 s (.c a size ag :: rs) K = Du s.h size ag (s.t a) (Uk s rs K) := (rfl)
theorem Sw (s rs K x u) : Uk s rs K x u = (u = [] ∧ E7 s rs fun l => K (x :: l)) := (rfl)
theorem Aks (x) : one [x] = x := (rfl)
theorem Akr (x y l) : one (x :: y :: l) = .tup (x :: y :: l) := (rfl)
theorem Abo (k) : C1 k [] = [] := (rfl)
theorem Xl (k x l) : C1 k (x :: l) = (k, x) :: C1 (k + 1) l := (rfl)
theorem Lr (h : Nat → Option Blk) (n sz es) (hn : h n = some (.row sz es)) : Fz h (.os n) = .pv (.sl false sz es) := by simp only [Fz, hn]
theorem Z7 (s) : Rq s [] = True := (rfl)
theorem Wt (s n x l) : Rq s ((n, x) :: l) = (Imp (s.t n) x ∧ Rq s l) := (rfl)
theorem Z8 (s) : N7 s [] = True := (rfl)
theorem Wu (s n b l) : N7 s ((n, some b) :: l) = (Ww (s.h n) b ∧ N7 s l) := (rfl)
theorem Wv (x y) : Ww (some x) y = Ab9 x y := (rfl)
theorem Aaa (a b c d) : Ab9 (.row a b) (.row c d) = (a = c ∧ b = d) := (rfl)
theorem Z9 (x y) : Ab9 (.var x) (.var y) = (Imp x y ∧ x.width = y.width) := (rfl)
theorem Z6 (x) : Imp x x = True := eq_true (Imp.refl x)
theorem Ads (n m : Nat) (l : List Nat) : (n ∈ m :: l) = (n = m ∨ n ∈ l) := propext List.mem_cons
theorem X4 {n : Int} (h : 0 ≤ n ∧ n < 18446744073709551616) : IntKind.u64.wrap n = n := by
 simp [IntKind.wrap, IntKind.signed, IntKind.bits]; omega
theorem X5 {n : Int} (h : -9223372036854775808 ≤ n ∧ n < 9223372036854775808) : IntKind.i64.wrap n = n := by
 simp [IntKind.wrap, IntKind.signed, IntKind.bits]; omega
mutual
theorem R7 (n : Nat) : ∀ {x : SV}, x.closed = true → x.kill n = x
 | .pv _, _ => by simp only [SV.kill]
 | .vec _ _, _ => by simp only [SV.kill]
 | .agg l, h => by simp only [SV.closed] at h; simp only [SV.kill, C7 n h]
 | .tup l, h => by simp only [SV.closed] at h; simp only [SV.kill, C7 n h]
 | .pi _ _ _ _, _ => by simp only [SV.kill]
 | .fn f l, h => by simp only [SV.closed] at h; simp only [SV.kill, C7 n h]
 | .dead, _ => by simp only [SV.kill]
 | .p _ _, h => by simp [SV.closed] at h
 | .ps _ _, h => by simp [SV.closed] at h
 | .pr _ _ _ _, h => by simp [SV.closed] at h
 | .os _, h => by simp [SV.closed] at h
 | .ov _ _ _ _, h => by simp [SV.closed] at h
theorem C7 (n : Nat) : ∀ {l : List SV}, SV.closedL l = true → SV.killL n l = l
 | [], _ => by simp only [SV.killL]
 | x :: l, h => by
   simp only [SV.closedL, Bool.and_eq_true] at h;simp only [SV.killL, R7 n h.1, C7 n h.2]
end
theorem Ab {P : Program} {E : Env} {f : Nat} {args : List SV} {h : Nat → Option Blk} {d : Nat} {x : SV} {u : List HU} {K : KK} (hf : FunOk P f args h d x u) (hk : K x u) (hE : E.call = T9 P := by rfl) : Jm E f args h d K := ⟨x, u, .inl (hE ▸ .inl hf), hk⟩
theorem Abb {P : Program} {E : Env} {f : Nat} {args : List SV} {h : Nat → Option Blk} {d : Nat} {x : SV} {K : KK} (hf : Aca P f args h x) (hk : K x []) (hE : E.call = T9 P := by rfl) : Jm E f args h d K := ⟨x, [], .inl (hE ▸ .inr ⟨rfl, hf⟩), hk⟩
theorem Ada (w : World) (ht : T8 w) : RelR ⟨w, fun _ => False, fun _ => False, fun _ => undef, []⟩ 0 (fun _ => undef) ⟨fun _ => .dead, fun _ => none⟩ ⟨#[], []⟩ w :=
 ⟨⟨rfl, rfl, rfl, Nat.le_refl _, fun _ _ _ => rfl, fun _ h => h.elim, ⟨ht, fun _ _ => id⟩⟩, fun b ⟨n, x, h, _⟩ => by simp at h, fun n x h => by simp at h, fun n m x y b h => by simp at h, fun n => by simp only [Conc], rfl, rfl⟩
theorem FunOk.law {P : Program} {f : Nat} {args : List SV} {h d} (hf : FunOk P f args h d (.pv (.b true)) []) (hc : SV.closedL args = true) {w : World} {vs : List Value} {ρ : Nat → Value} (hv : ConcL (Aj w fun _ => False) ρ args vs) (htw : T8 w) :
 Calls P f ⟨vs⟩ w fun e w' => e = .returned (.bool true) ∧ Below w.heap.size w w' := by
 have ht : Ax args = [] := by
  cases hx : Ax args with
  | nil => rfl
  | cons n l =>
    have : SV.killL n args = args := by
     have key : ∀ (l : List SV), SV.closedL l = true → ∀ n, SV.killL n l = l := fun l hl n => C7 n hl;exact key args hc n
    exact absurd (by rw [hx]; simp) (E3 this)
 have hV : (Aj w fun _ => False).le (vw ⟨w, fun _ => False, fun _ => False, fun _ => undef, []⟩ w (fun _ => undef) ⟨fun _ => .dead, fun _ => none⟩) :=
  A5 fun b c _ hb => ⟨fun hh => hh.elim (fun ⟨n, x, h, _⟩ => by simp at h) id, hb⟩
 refine Calls.mono (hf.2 _ 0 _ _ _ w (Ada w htw) (by rw [ht]; simp) vs (D0 hV hc hv)) fun e w' he => ?_;obtain ⟨v, ρ', rfl, hR, hy⟩ := he;exact ⟨by rw [I7 hy], hR.fr.os, hR.fr.tape, hR.fr.output, hR.fr.size, fun b hb => hR.fr.block b hb id⟩
end Go.Proofs.YthleeikkpjiicaaDoor.Fw
namespace Go.Proofs.YthleeikkpjiicaaDoor.Fw
open Go.RowKit
variable (E : Env)
def brK (a : C) (Q : Bi) (s : FS) : Prop := sx E a Q s
def gdK (k : Kd) (x : List Opd) (d : Nat) (l : List I) (Q : Bi) (s : FS) : Prop := body E k x d s (K0 E (some d) l Q s)
def skK (d : Option Nat) (l : List I) (Q : Bi) (s : FS) : Prop := Qu E l Q (s.apply d (.tup []) [])
def gdA (D : List Nat) (c : Nat) (k : Kd) (x : List Opd) (d : Nat) (l : List (I × Nat × List Nat)) (Q : Bi) (s : FS) : Prop := body E k x d s (G1 E D c (some d) l Q s)
def skA (D : List Nat) (c : Nat) (d : Option Nat) (l : List (I × Nat × List Nat)) (Q : Bi) (s : FS) : Prop := G1 E D c d l Q s (.tup []) []
def pkK (K : KK) (x : SV) : Prop := K x []
theorem Lc (a Q s) : brK E a Q s = sx E a Q s := (rfl)
theorem Lb (k x d l Q s) : gdK E k x d l Q s = body E k x d s (K0 E (some d) l Q s) := (rfl)
theorem La (d l Q s) : skK E d l Q s = Qu E l Q (s.apply d (.tup []) []) := (rfl)
theorem K9 (D c k x d l Q s) : gdA E D c k x d l Q s = body E k x d s (G1 E D c (some d) l Q s) := (rfl)
theorem K8 (D c d l Q s) : skA E D c d l Q s = G1 E D c d l Q s (.tup []) [] := (rfl)
theorem K5 (K x) : pkK K x = K x [] := (rfl)
theorem Aid (p : Prop) [Decidable p] (a b Q s) : Wn E (.pv (.b (decide p))) a b Q s = ((p → brK E a Q s) ∧ (¬ p → brK E b Q s)) := by
 by_cases h : p <;> simp [Wn, brK, h]
attribute [go_sem] Aad Aa7 Acv Yd Vl Vk Wx Wy Wz W0 Acn Aco Acm Ad6 Ad5 Ad7 Agc Wm S4 Aa8 Acw Ye Vn Vm W3 W4 Akz Aky Akx Adq Zj Zm We Sx Sy Zl Zk Af8 Aga Yc Acu Af9 Acr Acs Agb Aic Aie Ae1 Ae2 Aeb Aec Aea Aed Aah Aai W5 Aaj W6 Aob Al8 f_p Aoc Aip Aiq Yt Ui U0 Amc Ann Amd Al3 Ah1 Ady Wj S0 Wl S3 S2 An0 Alx An2 k_p An1 An4 Alz Aly An5 Ah9 Ad4 Ah7 Ah8 Aen Aan Xi Tl Xe Aoj Ajm Amt Am5 Am6 Ajo Am4 Aok Amo Am7 Amz Aoi Am1 Ajn Ams Amr Aol Amw Amx Amv Amy Amu Am9 Ant Ahu Ahi Ahj Ak5 Alf Alg Ahw Ale Xj Abc Anu Ak0 Alh Ala Aao Zy Ans Af5 Alb Ak4 Ak3 Anv Aoa Al6 Ak7 Aih Aii Aab Alt Alu Alv Anz Alq Alr Als Ad1 Zs Zt Wf Aer Aa5 Anm Akj Aj8 Agy Aj9 Agz Af2 Ach Ac5 Yr Aoh Amk Aml Ai4 Aet Ahl Akh Yi Aki Ano Akf Acy Aae Aeq Abq An8 Al4 Aim Aef Aoe Aof Alj Aju Ak8 Al2 Ak6 Ak9 Ze Zf Ahv Amn Amm Ajl Ajd Ajg Aje Ajk Ajf Ajh Aji Ajj Aja Ai9 Ai6 Ai7 Ai8 Al5 Aio Af1 Acg Ajq Aez Anj Ank Ac9 Aiu Zi Aig Air Aek Aak Agx Agw Agv Agu Ac3 All Ags Agr Al1 Al0 if_true if_false Option.map_some Option.bind_some Nat.le_refl and_self List.append_nil List.nil_append List.cons_append true_and and_true true_or or_true Bool.false_and Bool.true_and Bool.false_or Bool.or_false Bool.and_false Bool.and_true Bool.not_true Bool.not_false Int.toNat_zero List.drop_zero Int.toNat_natCast Ads Nat.zero_add Nat.add_zero decide_true decide_false Adu Adv Adt Ag6 Ag5 Yz Ag7 Ag8 Sw Aks Akr Abo Xl Z7 Wt Z8 Wu Wv Aaa Z9 Z6 Option.getD_some Option.getD_none true_implies false_implies Aid X4 X5 not_true_eq_false not_false_eq_true
attribute [go_sem_proc] Nat.reduceEqDiff Nat.reduceSub Nat.reduceLeDiff Nat.reduceAdd Int.reduceEq Int.reduceLT Int.reduceLE
attribute [go_sem_proc ↓] reduceIte
end Go.Proofs.YthleeikkpjiicaaDoor.Fw
namespace Go.Proofs.YthleeikkpjiicaaDoor.Fw
open Go.RowKit
def Ij (n : Nat) (f : Nat → PV) : List PV := (List.range n).map f
theorem Ld (n f) : (Ij n f).length = n := by simp [Ij]
theorem Nv {n k : Nat} (h : k < n) (f) : (Ij n f)[k]? = some (f k) := by simp [Ij, h]
theorem Abn {n : Nat} {f g : Nat → PV} (h : ∀ i, i < n → f i = g i) : Ij n f = Ij n g := by
 unfold Ij; exact List.map_congr_left fun i hi => h i (by simpa using hi)
theorem Abm {n : Nat} {f g : Nat → PV} : Ij n f = Ij n g ↔ ∀ i, i < n → f i = g i := by
 refine ⟨fun e i hi => ?_, Abn⟩;have := congrArg (·[i]?) e;simp only [Nv hi, Option.some.injEq] at this;exact this
abbrev Vc := Nat → Nat
def vE (a : Vc) : List PV := Ij 8 fun i => .i .u32 (a i : Int)
def tE (t : Nat → Vc) : List PV := Ij 64 fun i => .i .u32 (t (i / 8) (i % 8) : Int)
def wE (w : Nat → Bool) : List PV := Ij 8 fun i => .b (w i)
def Sn (a b : Vc) : Prop := ∀ i, i < 8 → a i = b i
instance (a b : Vc) : Decidable (Sn a b) := inferInstanceAs (Decidable (∀ i, i < 8 → a i = b i))
theorem Af4 {a b : Vc} : vE a = vE b ↔ Sn a b := by
 unfold vE Sn; rw [Abm];refine forall_congr' fun i => forall_congr' fun hi => ?_;simp only [PV.i.injEq, true_and]; omega
theorem Jr (a) : (vE a).length = 8 := Ld ..
theorem Aej (a) : Ci [.int .u32, .int .u32, .int .u32, .int .u32, .int .u32, .int .u32, .int .u32, .int .u32] (vE a) = True := eq_true rfl
theorem Ahk (a b) : Xx (vE a) (vE b) = decide (Sn a b) := by unfold Xx; exact decide_eq_decide.2 Af4
theorem Ace : ([.i .u32 0, .i .u32 0, .i .u32 0, .i .u32 0, .i .u32 0, .i .u32 0, .i .u32 0, .i .u32 0] : List PV) = vE fun _ => 0 := rfl
theorem Acd : ([.b false, .b false, .b false, .b false, .b false, .b false, .b false, .b false] : List PV) = wE fun _ => false := rfl
theorem Aha : List.replicate 8 (PV.i .u32 0) = vE fun _ => 0 := rfl
theorem Ag9 : List.replicate 8 (PV.b false) = wE fun _ => false := rfl
theorem Ahb : List.replicate 64 (PV.i .u32 0) = tE fun _ _ => 0 := rfl
def iE (f : Nat → Int) : List PV := Ij 8 fun i => .i .i64 (f i)
theorem Acf : ([.i .i64 0, .i .i64 0, .i .i64 0, .i .i64 0, .i .i64 0, .i .i64 0, .i .i64 0, .i .i64 0] : List PV) = iE fun _ => 0 := rfl
theorem Ahc : List.replicate 8 (PV.i .i64 0) = iE fun _ => 0 := rfl
theorem Adx (c cs K) : LoadK (some (c :: cs)) 0 1 false K = K (.pv c) [] := by
 simp [LoadK, Om]
theorem Adw (c cs n m ag K) : LoadK (some (c :: cs)) (n + 1) m ag K = LoadK (some cs) n m ag K := by
 simp only [LoadK, List.length_cons];have e : Om (c :: cs) (n + 1) m ag = Om cs n m ag := by cases ag <;> simp [Om]
 rw [e];congr 1;exact propext ⟨fun h => by omega, fun h => by omega⟩
theorem Aht {p q : Prop} (h : p) : (p ∧ q) = q := propext ⟨fun x => x.2, fun x => ⟨h, x⟩⟩
theorem Ame {a b : Int} (h : a < b) : decide (a < b) = true := decide_eq_true h
theorem Amf {a b : Int} (h : ¬ a < b) : decide (a < b) = false := decide_eq_false h
theorem Amg {a b : Int} (h : a ≤ b) : decide (a ≤ b) = true := decide_eq_true h
theorem Amh {a b : Int} (h : ¬ a ≤ b) : decide (a ≤ b) = false := decide_eq_false h
theorem Ami {a b : Int} (h : a = b) : decide (a = b) = true := decide_eq_true h
theorem Amj {a b : Int} (h : ¬ a = b) : decide (a = b) = false := decide_eq_false h
theorem Ad9 {k : IntKind} {a b : Int} (h : a = b) : Imp (.pv (.i k a)) (.pv (.i k b)) = True := eq_true (h ▸ Imp.refl _)
def Ms (n m : Nat) : List (Nat × SV) → List (Nat × SV)
 | [] => []
 | (j, x) :: l => (j, x.ren n m) :: Ms n m l
def Ho (n m : Nat) : List (Nat × Option Blk) → List (Nat × Option Blk)
 | [] => []
 | (j, some x) :: l => (if j = m then (j, none) else (j, some (x.ren n m))) :: Ho n m l
 | (j, none) :: l => (j, none) :: Ho n m l
theorem Uw (n m k) : ∀ t : List (Nat × SV), lk .dead k (Ms n m t) = (lk .dead k t).ren n m
 | [] => by simp [Ms, lk, SV.ren]
 | (j, x) :: l => by
   simp only [Ms, lk, Uw n m k l];split <;> rfl
theorem Lp (n m k) (hk : k ≠ m) : ∀ t : List (Nat × Option Blk), lk none k (Ho n m t) = (lk none k t).map (Blk.ren n m)
 | [] => by simp [Ho, lk]
 | (j, some x) :: l => by
   by_cases hj : j = m
   · subst hj; simp [Ho, lk, hk, Lp n j k hk l]
   · simp only [Ho, hj, if_false, lk, Lp n m k hk l];split <;> rfl
 | (j, none) :: l => by
   simp only [Ho, lk, Lp n m k hk l];split <;> simp
theorem Ahd (t h n m) (hne : n ≠ m) : (mk t h).ren n m = mk (Ms n m t) ((n, none) :: (m, (lk none n h).map (Blk.ren n m)) :: Ho n m h) := by
 have e1 : (fun k => ((mk t h).t k).ren n m) = (mk (Ms n m t) ((n, none) :: (m, (lk none n h).map (Blk.ren n m)) :: Ho n m h)).t := by
  funext k; simp only [mk, Uw]
 have e2 : ((mk t h).ren n m).h = (mk (Ms n m t) ((n, none) :: (m, (lk none n h).map (Blk.ren n m)) :: Ho n m h)).h := by
  funext k;simp only [FS.ren, mk, lk];by_cases h1 : k = m
  · subst h1; rw [if_pos rfl, if_neg (Ne.symm hne), if_pos rfl]
  · rw [if_neg h1];by_cases h2 : k = n
    · subst h2; simp
    · rw [if_neg h2, if_neg h2, if_neg h1, Lp n m k h1]
 show FS.mk _ _ = FS.mk _ _;congr 1
theorem Pd {t : List (Nat × SV)} {h : List (Nat × Option Blk)} {s' : FS} (n m : Nat) (hne : n ≠ m) (hm : lk none m h = none) (hw : Wk (mk (Ms n m t) ((n, none) :: (m, (lk none n h).map (Blk.ren n m)) :: Ho n m h)) s') : Wk (mk t h) s' :=
 .ren n m hne hm (by rw [Ahd _ _ _ _ hne]; exact hw)
theorem X6 {t : List (Nat × SV)} {h : List (Nat × Option Blk)} {s' : FS} (k n sz : Nat) {z : Nat} (ht : lk .dead k t = .pv (.sl true z [])) (hs : 0 < sz) (hw : Wk (mk ((k, .os n) :: I5 n t) ((n, some (.row sz [])) :: Fe n h)) s') : Wk (mk t h) s' :=
 .nil k n z sz ht hs (by rw [U0, Ui, Yt]; exact hw)
theorem Al {α : Type} {I : α → FS} {J : α → Prop} {m : α → Nat} {x : α} {s : FS} (y : α) (T : List (Nat × SV)) (H : List (Nat × Option Blk)) (hI : I y = mk T H) (hJ : J y) (hm : m y < m x) (h1 : Rq s T) (h2 : N7 s H) : ∃ y, J y ∧ m y < m x ∧ Wk s (I y) :=
 ⟨y, hJ, hm, hI ▸ Ar h1 h2⟩
theorem Anp (n m x) : SV.ren n m (.pv x) = .pv x := (rfl)
theorem Akm (n m k x) : SV.ren n m (.vec k x) = .vec k x := (rfl)
theorem Anq (n m a b c d) : SV.ren n m (.pi a b c d) = .pi a b c d := (rfl)
theorem r_p (n m k o) : SV.ren n m (.p k o) = if k = n then .p m o else if k = m then .dead else .p k o := (rfl)
theorem Anr (n m k) : SV.ren n m (.os k) = if k = n then .os m else if k = m then .dead else .os k := (rfl)
theorem Ako (n m l) : SV.ren n m (.agg l) = .agg (SV.renL n m l) := (rfl)
theorem Akn (n m l) : SV.ren n m (.tup l) = .tup (SV.renL n m l) := (rfl)
theorem Ahg (n m) : SV.renL n m [] = [] := (rfl)
theorem Adc (n m x l) : SV.renL n m (x :: l) = SV.ren n m x :: SV.renL n m l := (rfl)
theorem Ahe (n m x) : Blk.ren n m (.var x) = .var (x.ren n m) := (rfl)
theorem Ahf (n m a b) : Blk.ren n m (.row a b) = .row a b := (rfl)
theorem Y0 (n m) : Ms n m [] = [] := (rfl)
theorem V3 (n m j x l) : Ms n m ((j, x) :: l) = (j, x.ren n m) :: Ms n m l := (rfl)
theorem Y1 (n m) : Ho n m [] = [] := (rfl)
theorem V5 (n m j x l) : Ho n m ((j, some x) :: l) = (if j = m then (j, none) else (j, some (x.ren n m))) :: Ho n m l := (rfl)
theorem V4 (n m j l) : Ho n m ((j, none) :: l) = (j, none) :: Ho n m l := (rfl)
theorem Ais (p : List PV → Prop) : (∀ c, c ∈ ([] : List (List PV)) → p c) = True := by simp
theorem Ael (x l) (p : List PV → Prop) : (∀ c, c ∈ x :: l → p c) = (p x ∧ ∀ c, c ∈ l → p c) := by simp
theorem Al9 (d : Nat) (p : Nat → Prop) : (∃ n, SV.os d = SV.os n ∧ p n) = p d := propext ⟨fun ⟨n, e, h⟩ => by cases e; exact h, fun h => ⟨d, rfl, h⟩⟩
attribute [go_sem] List.take_length Ais Ael Al9 List.length_cons List.length_nil Acf Ahc Anp Akm Anq r_p Anr Ako Akn Ahg Adc Ahe Ahf Y0 V3 Y1 V5 V4 Adx Adw Ad9 Int.natCast_zero Ace Acd Aha Ag9 Ahb Jr Aej Ahk Aht Ame Amf Amg Amh Ami Amj Nat.mul_one Bool.false_xor Bool.true_xor
section slices
variable (E : Env)
theorem An3 (n m z a b) : SV.kill n (.ov m z a b) = if n = m then .dead else .ov m z a b := (rfl)
theorem Ad3 (n a b c) : Blk.kill n (.rowc a b c) = .rowc a b c := (rfl)
theorem Am0 (n x d s K) : body E (.eqn n) x d s K = Ag d s.h (.eqn n) (A2 s x) K := (rfl)
theorem Am3 (x d s K) : body E .cap x d s K = Ag d s.h .cap (A2 s x) K := (rfl)
theorem Am2 (n x d s K) : body E (.cpy n) x d s K = Ag d s.h (.cpy n) (A2 s x) K := (rfl)
theorem Am8 (a b z x d s K) : body E (.apz a b z) x d s K = Ag d s.h (.apz a b z) (A2 s x) K := (rfl)
theorem Amq (n a b x d s K) : body E (.slv n a b) x d s K = Ag d s.h (.slv n a b) (A2 s x) K := (rfl)
theorem Amp (n x d s K) : body E (.slx n) x d s K = Ag d s.h (.slx n) (A2 s x) K := (rfl)
theorem Zg (d h n f z es K) : Ag d h (.eqn n) [.pv (.sl f z es)] K = Ni n (some es) K := (rfl)
theorem Aar (n es K) : Ni n (some es) K = ∀ b : Bool, (es ≠ [] → b = false) → K (.pv (.b (n ^^ b))) [] := (rfl)
theorem Ald (d h n K) : Ag d h .cap [.os n] K = Nn (h n) n K := (rfl)
theorem Aba (sz es n K) : Nn (some (.row sz es)) n K = ∀ c : Nat, es.length ≤ c → K (.pv (.i .i64 c)) [.upd n (.rowc sz es c)] := (rfl)
theorem Aax (sz es) : Bz (some (.row sz es)) = some es := (rfl)
theorem Aay (sz es c) : Bz (some (.rowc sz es c)) = some es := (rfl)
theorem Yw (sz es) : Bs (some (.row sz es)) = sz := (rfl)
theorem Yx (sz es c) : Bs (some (.rowc sz es c)) = sz := (rfl)
theorem W9 (h n z a b) : C5 h (.ov n z a b) = (Bz (h n)).map fun es => (es.take b).drop a := (rfl)
theorem Xa (h n) : C5 h (.os n) = Bn h (.os n) := (rfl)
theorem Aav (h n z a b) : D9 h (.ov n z a b) = if Bs (h n) = z then z else 0 := (rfl)
theorem Aaw (h n) : D9 h (.os n) = Ez h (.os n) := (rfl)
theorem Alc (d h sz x y K) : Ag d h (.cpy sz) [x, y] K = G0 h sz x y K := (rfl)
theorem Xb (h sz n z a b y K) : G0 h sz (.ov n z a b) y K = (z = sz ∧ Ga (h n) n sz a (some b) (C5 h y) (D9 h y) K) := (rfl)
theorem Aa6 (sz' es n sz lo hi ys z K) : Ga (some (.row sz' es)) n sz lo (some hi) (some ys) z K = (sz = sz' ∧ (ys = [] ∨ z = sz) ∧
 K (.pv (.i .i64 ((min ys.length (hi - lo) : Nat) : Int))) [.upd n (.row sz (es.take lo ++ ys.take (hi - lo) ++ es.drop (lo + min ys.length (hi - lo))))]) := (rfl)
theorem Ali (d h a b z x k m K) : Ag d h (.apz a b z) [x, .pv (.i k m)] K = G4 h d a b z m x K := (rfl)
theorem Xm (h d a b z m n y lo hi K) : G4 h d a b z m (.ov n y lo hi) K = (lo = 0 ∧ Ki (h n) d a b z hi m K) := (rfl)
theorem Abp (sz' es c d sz bytes z hi m K) : Ki (some (.rowc sz' es c)) d sz bytes z hi m K = (sz = sz' ∧ 0 < m ∧ (c : Int) < hi + m ∧ (hi + m) * bytes ≤ 70368744177664 ∧ K (.os d) [.new d (.row sz (es.take hi ++ List.replicate m.toNat z))]) := (rfl)
theorem Ak2 (d h sz a b x l K) : Ag d h (.slv sz a b) (x :: l) K = H1 h sz a b x l K := (rfl)
theorem Vt (h sz a b n l K) : H1 h sz a b (.os n) l K = Vv n sz b (Bz (h n)) (Bs (h n)) (C2 a 0 l) K := (rfl)
theorem Agp (n sz hi es z i l K) : Vv n sz hi (some es) z (some (i, l)) K = (sz = z ∧ Vu n sz es.length i (C2 hi es.length l) K) := (rfl)
theorem Ago (n sz len i j l K) : Vu n sz len i (some (j, l)) K = (0 ≤ i ∧ i ≤ j ∧ j ≤ len ∧ K (.ov n sz i.toNat j.toNat) []) := (rfl)
theorem Ak1 (d h sz x k j K) : Ag d h (.slx sz) [x, .pv (.i k j)] K = Mi h d sz x j [.pv (.i k j)] K := (rfl)
theorem Vs (h d sz n j l K) : Mi h d sz (.os n) j l K = Mj (h n) n d sz j (Iu (.os n) h sz false true false l (Bn h (.os n)) K) K := (rfl)
theorem Yk (sz' es c n d sz j T K) : Mj (some (.rowc sz' es c)) n d sz j T K = (sz = sz' ∧ es.length ≤ j ∧ j ≤ c ∧ ∀ g : List (List PV), g.length = j.toNat - es.length → (∀ x ∈ g, x.length = sz) → K (.os d) [.del n, .new d (.row sz (es ++ g))]) := (rfl)
attribute [go_sem] An3 Ad3 Am0 Am3 Am2 Am8 Amq Amp Zg Aar Ald Aba Aax Aay Yw Yx W9 Xa Aav Aaw Alc Xb Aa6 Ali Xm Abp Ak2 Vt Agp Ago Ak1 Vs Yk Nat.sub_zero
end slices
section own
variable {P : Program} {F : Fr} {N : Nat} {ρ : Nat → Value} {s : FS} {a : Act} {w w' : World} {K : KK} {V : View}
theorem Rr {u : List HU} : ∀ (ts : List Nat) (s : FS), s.hup (ts.map HU.del ++ u) = (Av s ts).hup u
 | [], s => by simp [Av]
 | n :: ts, s => by
   simp only [List.map_cons, List.cons_append, FS.hup];rw [Rr ts];congr 1;refine FS.ext' (fun _ => rfl) (fun m => ?_);simp only [Av, FS.seth, List.mem_cons];by_cases h1 : m ∈ ts
   · simp [h1]
   · by_cases h2 : m = n <;> simp [h1, h2]
def P0 (ρ : Nat → Value) (h : Nat → Option Blk) (ts : List Nat) (b : Nat) : Prop := ∃ n ∈ ts, ∃ blk, h n = some blk ∧ Bg (ρ n) = some b
theorem RelR.swapin (hR : RelR F N ρ s a w) (ts : List Nat) (d : Nat) (blk : Blk) (p : Value)
 (hos : w'.os = w.os) (htape : w'.tape = w.tape) (hout : w'.output = w.output) (hsize : w.heap.size ≤ w'.heap.size) (hblock : ∀ b, b < w.heap.size → ¬ P0 ρ s.h ts b → w'.heap[b]? = w.heap[b]?)
 (hid : ∀ b, Bg p = some b → (w.heap.size ≤ b ∧ b < w'.heap.size) ∨ P0 ρ s.h ts b)
 (hown : Own w' (vw F w' (Fw.upd ρ d p) (((Av s ts).kill d).seth d (some blk))) (Fw.upd ρ d p) d blk) :
 RelR F N (Fw.upd ρ d p) (((Av s ts).kill d).seth d (some blk)) a w' ∧ (vw F w ρ s).le (vw F w' (Fw.upd ρ d p) (((Av s ts).kill d).seth d (some blk))) := by
 have hs : ∀ m x, (((Av s ts).kill d).seth d (some blk)).h m = some x → (m = d ∧ x = blk) ∨ (m ≠ d ∧ m ∉ ts ∧ ∃ y, s.h m = some y ∧ x = y.kill d) := by
  intro m x hm;simp only [Av, FS.seth, FS.kill] at hm;by_cases e : m = d
  · simp only [e, if_true] at hm; cases hm; exact .inl ⟨e, rfl⟩
  · simp only [e, if_false] at hm;by_cases e2 : m ∈ ts
    · simp [e2] at hm
    · simp only [e2, if_false] at hm;cases hy : s.h m with
      | none => rw [hy] at hm; cases hm
      | some y => rw [hy] at hm; cases hm; exact .inr ⟨e, e2, y, rfl, rfl⟩
 have mo : ∀ b, P0 ρ s.h ts b → Ba ρ s.h b := fun b ⟨n, _, y, h1, h2⟩ => ⟨n, y, h1, h2⟩
 have key : ∀ b, Ba (Fw.upd ρ d p) (((Av s ts).kill d).seth d (some blk)).h b → Ba ρ s.h b ∨ (w.heap.size ≤ b ∧ b < w'.heap.size) := by
  rintro b ⟨m, x, hm, hb⟩;rcases hs m x hm with ⟨rfl, rfl⟩ | ⟨e1, e2, y, hy, rfl⟩
  · rw [Am] at hb;rcases hid b hb with h | h
    · exact .inr h
    · exact .inl (mo b h)
  · rw [A0 e1] at hb; exact .inl ⟨m, y, hy, hb⟩
 have hV : (vw F w ρ s).le (vw F w' (Fw.upd ρ d p) (((Av s ts).kill d).seth d (some blk))) := A5 fun b c ho hc => by
  have hlt := Ea hc;refine ⟨fun hb => ?_, ?_⟩
  · rcases hb with hb | hb
    · rcases key b hb with h | h
      · exact ho (.inl h)
      · omega
    · exact ho (.inr hb)
  · rw [Be (hblock b hlt fun h => ho (.inl (mo b h)))]; exact hc
 refine ⟨⟨⟨hos.trans hR.fr.os, htape.trans hR.fr.tape, hout.trans hR.fr.output, Nat.le_trans hR.fr.size hsize, fun b hb hm => ?_, hR.fr.hid, hR.fr.tab⟩, fun b hb => ?_, fun m x hm => ?_, fun m k x y b hm hk hbm hbk => ?_, fun m => ?_, hR.size, hR.defers⟩, hV⟩
 · rw [hblock b (Nat.lt_of_lt_of_le hb hR.fr.size) fun h => by
    rcases hR.may b (mo b h) with h1 | h1
    · omega
    · exact hm h1]
   exact hR.fr.block b hb hm
 · rcases key b hb with h | h
   · exact hR.may b h
   · exact .inl (Nat.le_trans hR.fr.size h.1)
 · rcases hs m x hm with ⟨rfl, rfl⟩ | ⟨e1, e2, y, hy, rfl⟩
   · exact hown
   · have ho := hR.own m y hy;exact (ho.congr (V' := vw F w ρ s) (w' := w') (fun _ _ x => x) (fun b hb => hblock b (ho.lt hb) fun ⟨n, hn, z, hz, hb'⟩ => e2 (by rw [hR.inj m n y z b hy hz hb hb']; exact hn))).kill hV e1
 · rcases hs m x hm with ⟨rfl, rfl⟩ | ⟨e1, e2, z, hz, rfl⟩
   · rcases hs k y hk with ⟨rfl, rfl⟩ | ⟨f1, f2, u, hu, rfl⟩
     · rfl
     · exfalso; rw [Am] at hbm; rw [A0 f1] at hbk;rcases hid b hbm with h | ⟨n, hn, q, hq, hb'⟩
       · have := (hR.own k u hu).lt hbk; omega
       · exact f2 (by rw [hR.inj k n u q b hu hq hbk hb']; exact hn)
   · rcases hs k y hk with ⟨rfl, rfl⟩ | ⟨f1, f2, u, hu, rfl⟩
     · exfalso; rw [Am] at hbk; rw [A0 e1] at hbm;rcases hid b hbk with h | ⟨n, hn, q, hq, hb'⟩
       · have := (hR.own m z hz).lt hbm; omega
       · exact e2 (by rw [hR.inj m n z q b hz hq hbm hb']; exact hn)
     · rw [A0 e1] at hbm; rw [A0 f1] at hbk;exact hR.inj m k z u b hz hu hbm hbk
 · show Conc _ _ ((s.t m).kill d) _;exact (hR.tmps m).kill hV
theorem Xf (hm : P.follows .mixedOrders = true) {f N' : Nat} {rs : List Rv} {c : C} (hf : Bj P f = some (N', rs, c)) {F' : Fr} {s0 : FS} {vs : List Value} (h0 : F'.defs = []) (hok : F'.ok F'.w0) (hm0 : ∀ b, F'.M0 b → b < F'.w0.heap.size)
 (hR : RelR F' N' ρ s0 { tmps := (⟨vs⟩ : Array Value) ++ Array.replicate (N' - (⟨vs⟩ : Array Value).size) undef, defers := [] } w) {R : SV → (Nat → Option Blk) → Prop} (hrun : sx (env P F' N') c (Sk rs R) s0) :
 Calls P f ⟨vs⟩ w fun e w' => ∃ v ρ' s' a' y, e = .returned v ∧ RelR F' N' ρ' s' a' w' ∧ Conc (vw F' w' ρ' s') ρ' y v ∧ R y s'.h :=
 Tk hm hf h0 hok hm0 hR (R := fun y s => R y s.h) hrun
def Ds (h : Nat → Option Blk) : List Nat → List (Nat × Option Blk)
 | [] => []
 | n :: l => (n, h n) :: Ds h l
theorem Rm (h : Nat → Option Blk) (n : Nat) : ∀ ts : List Nat, lk none n (Ds h ts) = if n ∈ ts then h n else none
 | [] => by simp [Ds, lk]
 | m :: ts => by
   simp only [Ds, lk, Rm h n ts, List.mem_cons];by_cases e : n = m
   · subst e; simp
   · simp [e]
theorem Aeg (hm : P.follows .mixedOrders = true) {f N' : Nat} {rs : List Rv} {c : C} (hf : Bj P f = some (N', rs, c)) {args : List SV} {h : Nat → Option Blk} {d : Nat} {sz : Nat} {es : List (List PV)} (hlen : args.length ≤ N')
 (hts : Bc args = Ax args)
 (hrun : ∀ F, sx (env P F N') c (Sk rs fun y g => ∃ n, y = .os n ∧ g n = some (.row sz es)) (mk (C1 0 args) (Ds h (Bc args)))) :
 FunOk P f args h d (.os d) ((Bc args).map .del ++ [.new d (.row sz es)]) := by
 refine ⟨Cj hf, fun F N ρ s a w hR hh vs hc => ?_⟩;rw [hts];rw [hts] at hrun;generalize htt : Ax args = ts at *
 let F' : Fr := ⟨w, P0 ρ s.h ts, F.out ρ (Av s ts).h, fun _ => undef, []⟩
 have hvl : vs.length = args.length := by
  clear hrun hlen hts hh htt
  induction args generalizing vs with
  | nil => simp only [ConcL] at hc; subst hc; rfl
  | cons x l ih =>
    simp only [ConcL] at hc;obtain ⟨v, us, rfl, _, h⟩ := hc;simp [ih _ h]
 have hlk : ∀ n, (mk (C1 0 args) (Ds h ts)).h n = if n ∈ ts then s.h n else none := fun n => by
  simp only [mk, Rm];split
  · rename_i hn; rw [hh n hn]
  · rfl
 have how : ∀ b, Ba ρ (mk (C1 0 args) (Ds h ts)).h b ↔ P0 ρ s.h ts b := fun b => by
  constructor
  · rintro ⟨n, x, h1, h2⟩;rw [hlk] at h1; split at h1
    · rename_i hn; exact ⟨n, hn, x, h1, h2⟩
    · cases h1
  · rintro ⟨n, hn, x, h1, h2⟩;exact ⟨n, x, by rw [hlk, if_pos hn]; exact h1, h2⟩
 have hoth : ∀ b, Ba ρ (Av s ts).h b ↔ ∃ n, n ∉ ts ∧ ∃ x, s.h n = some x ∧ Bg (ρ n) = some b := fun b => by
  constructor
  · rintro ⟨n, x, h1, h2⟩;simp only [Av] at h1; split at h1
    · cases h1
    · rename_i hn; exact ⟨n, hn, x, h1, h2⟩
  · rintro ⟨n, hn, x, h1, h2⟩;exact ⟨n, x, by simp only [Av, if_neg hn]; exact h1, h2⟩
 have hview : Aj w (F'.out ρ (mk (C1 0 args) (Ds h ts)).h) = vw F w ρ s := by
  show Aj w _ = Aj w _;congr 1;funext b;refine propext ⟨fun hb => ?_, fun hb => ?_⟩
  · rcases hb with hb | hb
    · obtain ⟨n, _, x, h1, h2⟩ := (how b).1 hb; exact .inl ⟨n, x, h1, h2⟩
    · rcases hb with hb | hb
      · obtain ⟨n, _, x, h1, h2⟩ := (hoth b).1 hb; exact .inl ⟨n, x, h1, h2⟩
      · exact .inr hb
  · rcases hb with ⟨n, x, h1, h2⟩ | hb
    · by_cases hn : n ∈ ts
      · exact .inl ((how b).2 ⟨n, hn, x, h1, h2⟩)
      · exact .inr (.inl ((hoth b).2 ⟨n, hn, x, h1, h2⟩))
    · exact .inr (.inr hb)
 have hR0 : RelR F' N' ρ (mk (C1 0 args) (Ds h ts)) { tmps := (⟨vs⟩ : Array Value) ++ Array.replicate (N' - (⟨vs⟩ : Array Value).size) undef, defers := [] } w := by
  refine ⟨⟨rfl, rfl, rfl, Nat.le_refl _, fun _ _ _ => rfl, fun b hb => ⟨?_, fun hmi => ?_⟩, ⟨hR.tabW, fun p hp ⟨n, hn, x, h1, h2⟩ => hR.tabN hp ⟨n, x, h1, h2⟩⟩⟩, fun b hb => .inr ((how b).1 hb), fun n x hx => ?_, fun n m x y b hx hy hbx hby => ?_, fun n => ?_, by simp; omega, rfl⟩
  · rcases hb with hb | hb
    · obtain ⟨n, _, x, h1, h2⟩ := (hoth b).1 hb; exact (hR.own n x h1).lt h2
    · exact Nat.lt_of_lt_of_le (hR.fr.hid b hb).1 hR.fr.size
  · obtain ⟨n, hn, x, h1, h2⟩ := hmi;rcases hb with hb | hb
    · obtain ⟨m, hm, y, g1, g2⟩ := (hoth b).1 hb;exact hm (by rw [hR.inj m n y x b g1 h1 g2 h2]; exact hn)
    · exact hR.shown ⟨n, x, h1, h2⟩ hb
  · rw [hview];rw [hlk] at hx; split at hx
    · exact hR.own n x hx
    · cases hx
  · rw [hlk] at hx hy;split at hx
    · split at hy
      · exact hR.inj n m x y b hx hy hbx hby
      · cases hy
    · cases hx
  · rw [hview];have := Fl 0 n hc;simp only [Nat.zero_le, if_true, Nat.sub_zero] at this;simp only [mk];have he : ((⟨vs⟩ : Array Value) ++ Array.replicate (N' - (⟨vs⟩ : Array Value).size) undef).getD n undef = (vs[n]?).getD undef := by
     rw [Array.getD_eq_getD_getElem?];by_cases hn : n < vs.length
     · rw [Array.getElem?_append_left (by simpa using hn)]; simp
     · rw [Array.getElem?_append_right (by simpa using hn)];rw [List.getElem?_eq_none (by omega)];simp only [Array.getElem?_replicate, Option.getD_none];split <;> rfl
    have hN := Qc hf;unfold Fr.val;by_cases hb : n < Ii
    · rw [if_pos hb, he]; exact this
    · rw [if_neg hb];rw [List.getElem?_eq_none (by omega)] at this; exact this
 refine Calls.mono (Xf hm hf rfl hR0.fr (fun b ⟨n, hn, x, h1, h2⟩ => (hR.own n x h1).lt h2) hR0 (hrun F')) fun e w' he => ?_;obtain ⟨v, ρ', s', a', y, rfl, hR', hy, n, rfl, hn⟩ := he;simp only [Conc] at hy;have ho : ∀ b, Bg (ρ' n) = some b → Ba ρ' s'.h b := fun b hb => ⟨n, _, hn, hb⟩
 have hid : ∀ b, Bg (ρ' n) = some b → (w.heap.size ≤ b ∧ b < w'.heap.size) ∨ P0 ρ s.h ts b := fun b hb => by
  rcases hR'.may b (ho b hb) with h1 | h1
  · exact .inl ⟨h1, hR'.lt (ho b hb)⟩
  · exact .inr h1
 have hres := hR.swapin (w' := w') ts d (.row sz es) (ρ' n) hR'.fr.os hR'.fr.tape hR'.fr.output hR'.fr.size hR'.fr.block hid (by
  obtain ⟨base, cap, g1, g2, g3, g4, g5⟩ := hR'.own n _ hn;refine ⟨base, cap, by rw [Am]; exact g1, g2, g3, g4, fun hcap => ?_⟩;obtain ⟨b, vs', ty, fr, k1, k2, k3, k4, k5, k6⟩ := g5 hcap;refine ⟨b, vs', ty, fr, k1, k2, k3, k4, k5, fun i c hi => (k6 i c hi).mono (A5 fun b' c' hno hc' => ⟨fun hb' => hno ?_, hc'⟩)⟩;rcases hb' with ⟨m, z, hm1, hm2⟩ | hb'
  · simp only [Av, FS.seth, FS.kill] at hm1;by_cases hmd : m = d
    · subst hmd;rw [Am] at hm2;exact .inl ⟨n, _, hn, hm2⟩
    · rw [A0 hmd] at hm2;simp only [hmd, if_false] at hm1;by_cases hmt : m ∈ ts
      · simp [hmt] at hm1
      · simp only [hmt, if_false] at hm1;obtain ⟨z', hz', _⟩ := Option.map_eq_some_iff.1 hm1;exact .inr (.inl ((hoth b').2 ⟨m, hmt, z', hz', hm2⟩))
  · exact .inr (.inr hb'))
 have e1 : s.hup (List.map HU.del ts ++ [HU.new d (Blk.row sz es)]) = ((Av s ts).kill d).seth d (some (.row sz es)) := by rw [Rr]; rfl
 refine ⟨v, Fw.upd ρ d (ρ' n), rfl, by rw [e1]; exact hres.1, ?_⟩;simp only [Conc];exact ⟨by rw [Am]; exact hy.1, hy.2⟩
theorem Aag (hm : P.follows .mixedOrders = true) {f N' : Nat} {rs : List Rv} {c : C} (hf : Bj P f = some (N', rs, c)) {args : List SV} {h : Nat → Option Blk} {d : Nat} {sz : Nat} {es : List (List PV)} (hlen : args.length ≤ N')
 (hargs : A4 args = true) (hx : SV.closedL args = true ∨ ∀ c ∈ es, c.all PV.flat = true) (hrun : ∀ F, sx (env P F N') c (Sk rs fun y g => (∃ n, y = .os n ∧ g n = some (.row sz es)) ∨ ∃ z, y = .pv (.sl true z []) ∧ es = [] ∧ 0 < sz) (mk (C1 0 (Br h args)) [])) :
 FunOk P f args h d (.os d) [.new d (.row sz es)] := by
 refine ⟨Cj hf, fun F N ρ s a w hR hh vs hc => ?_⟩;refine Calls.mono (Gb hm hf (h := h) hlen hargs Mr hrun hR hh hc) fun e w' he => ?_;obtain ⟨v, rfl, hg, N'', ρ', s', a', y, hR', hy, hyy⟩ := he;rcases hyy with ⟨n, rfl, hn⟩ | ⟨z, rfl, rfl, hsz⟩
 case inr =>
  simp only [Conc] at hy;have hv : ∃ base, v = .slice base 0 0 := by
   cases hy with
   | sl full sz es b cap cs bl off arr hcap hfull hsz ha hcs hel =>
     have := hfull rfl;simp at this;subst this;exact ⟨b, rfl⟩
  obtain ⟨base, rfl⟩ := hv;obtain ⟨h1, _⟩ := (hR.grew hg).new (Grew.refl w') d (.row sz []) (.slice base 0 0) (fun b hb => by cases base <;> simp [Bg] at hb) (fun V' _ => ⟨base, 0, by rw [Am]; rfl, Nat.le_refl _, hsz, by simp, fun h => absurd rfl h⟩);exact ⟨_, _, rfl, h1, C6⟩
 simp only [Conc] at hy;obtain ⟨base, cap, g1, g2, g3, g4, g5⟩ := hR'.own n _ hn;have hown : ∀ b, Bg (ρ' n) = some b → w.heap.size ≤ b ∧ b < w'.heap.size := fun b hb => by
  have ho : Ba ρ' s'.h b := ⟨n, _, hn, hb⟩
  exact ⟨(hR'.may b ho).resolve_right id, hR'.lt ho⟩
 have hnew := hR.adopt hg d (.row sz es) (ρ' n) hown fun hV => by
  refine ⟨base, cap, by rw [Am]; exact g1, g2, g3, g4, fun hcap => ?_⟩;obtain ⟨b, vs', ty, fr, k1, k2, k3, k4, k5, k6⟩ := g5 hcap;refine ⟨b, vs', ty, fr, k1, k2, k3, k4, k5, fun i c hi => ?_⟩;rcases hx with hx | hx
  · obtain ⟨e1, _, _⟩ := Cq hx;rw [e1, Gk] at hR' k6;refine (k6 i c hi).mono (A5 fun b' c' ho hc' => ⟨fun hb' => ?_, hc'⟩);rcases hb' with ⟨m, z, hm1, hm2⟩ | hb'
    · by_cases hmd : m = d
      · subst hmd;rw [Am] at hm2;exact ho (.inl ⟨n, _, hn, hm2⟩)
      · rw [A0 hmd] at hm2;simp only [FS.seth, FS.kill, hmd, if_false] at hm1;obtain ⟨z', hz', _⟩ := Option.map_eq_some_iff.1 hm1;exact ho (.inr (.inl ⟨m, z', hz', hm2⟩))
    · exact ho (.inr (.inr hb'))
  · exact H6 (hx c (List.mem_of_getElem? hi)) (k6 i c hi)
 refine ⟨v, _, rfl, hnew.1, ?_⟩;simp only [Conc];exact ⟨by rw [Am]; exact hy.1, hy.2⟩
theorem Aem (x : PV) (p : Nat → Prop) : (∃ n, SV.pv x = SV.os n ∧ p n) = False := by simp
theorem Aal (n : Nat) (q : Prop) : (∃ z, SV.os n = SV.pv (.sl true z []) ∧ q) = False := by simp
theorem Aiv (z0 : Nat) (q : Prop) : (∃ z, SV.pv (.sl true z0 []) = SV.pv (.sl true z []) ∧ q) = q := propext ⟨fun ⟨_, _, h⟩ => h, fun h => ⟨z0, rfl, h⟩⟩
theorem S8 (h) : Ds h [] = [] := (rfl)
theorem Rs (h n l) : Ds h (n :: l) = (n, h n) :: Ds h l := (rfl)
theorem Zw (n) : I4 (.os n) = [n] := (rfl)
theorem Zv (x) : I4 (.pv x) = [] := (rfl)
attribute [go_sem] Aem Aal Aiv S8 Rs false_or or_false Zw Zv List.cons_append List.nil_append
end own
end Go.Proofs.YthleeikkpjiicaaDoor.Fw
namespace Go.Proofs.YthleeikkpjiicaaDoor.Fw
open Go.RowKit
variable {P : Program} {F : Fr} {N M : Nat} {ρ : Nat → Value} {s : FS} {a b : Act} {w w' : World} {V : View} {X : X0}
def sh : Nat := 1000001
def gh : Nat := 1000000
attribute [irreducible] sh gh
def Ai0 (g : Int) : Option Code := if g = 0 then none else if g = 1 then some .ret else some (.exit (g - 2).toNat)
def Akl (fn : Nat) (tm : Array Value) (qs : Array Tmp) (as bd : Code) (D : Nat) (st : LoopState) (pe : Option Code) : Obj := .loop { state := st, pending := pe, fn, tmps := tm, params := qs, assign := as, body := bd, defers := D }
def An6 (F : Fr) (a : Act) (w0 : World) (B : Nat) (l : Nat) (o : LoopState → Option Code → Obj) (g : Int) : Fr :=
 ⟨w0.putObj l (o (if g = 0 then .ready else .done) (Ai0 g)), fun b => F.M0 b ∨ (F.w0.heap.size ≤ b ∧ b < B), F.hid, fun n => if n = gh then .int .i64 g else F.val a (n - sh), []⟩
structure ItCtx (P : Program) (N : Nat) (ps : List Nat) (ca cb : C) (l : Nat) (XI : X0) : Prop where
 ctx : ∃ (F : Fr) (a : Act) (w0 : World) (B fn D : Nat) (qs : Array Tmp) (as bd : Code),
  (XI = fun F' => ∃ g : Int, 0 ≤ g ∧ F' = An6 F a w0 B l (Akl fn a.tmps qs as bd D) g) ∧ Az P N as = some ca ∧ Az P N bd = some cb ∧ qs.toList = ps ∧ (∀ p ∈ ps, p < N ∧ p < Ii) ∧
  a.tmps.size = N ∧ B ≤ l ∧ l < w0.heap.size ∧ ¬ F.M0 l
end Go.Proofs.YthleeikkpjiicaaDoor.Fw
namespace Go.Proofs.YthleeikkpjiicaaDoor.Fw
open Go.RowKit
variable {P : Program} {F : Fr} {N M : Nat} {ρ : Nat → Value} {s : FS} {a b : Act} {w w' : World} {V : View} {X : X0}
end Go.Proofs.YthleeikkpjiicaaDoor.Fw
namespace Go.Proofs.YthleeikkpjiicaaDoor.Fw
open Go.RowKit
theorem Ag4 (rs R s) : Afc rs R .normal s = Mq rs R s := (rfl)
theorem Ag3 (rs R s) : Afc rs R .ret s = Mq rs R s := (rfl)
theorem Af0 {T : List (Nat × SV)} {H : List (Nat × Option Blk)} {s' : FS} (n : Nat) {sz : Nat} {es : List (List PV)} (hn : lk none n H = some (.row sz es)) (h : Wk (mk (Qa n (.sl false sz es) T) (Jc n (.sl false sz es) H)) s') : Wk (mk T H) s' :=
 .frz n sz es hn (by rw [Aah]; exact h)
attribute [go_sem] Ag4 Ag3 List.reverse_cons List.reverse_nil
end Go.Proofs.YthleeikkpjiicaaDoor.Fw
namespace Go.Proofs.YthleeikkpjiicaaDoor.Fw
open Go.RowKit
variable {P : Program} {F : Fr} {N : Nat} {ρ ρ' : Nat → Value} {s : FS} {a : Act} {w w' : World} {V V' : View}
end Go.Proofs.YthleeikkpjiicaaDoor.Fw
namespace Go.Proofs.YthleeikkpjiicaaDoor.Fw
open Go.RowKit
section
variable {E : Env}
end
attribute [go_sem] Akw Wb Wc Wd
end Go.Proofs.YthleeikkpjiicaaDoor.Fw
namespace Go.Proofs.YthleeikkpjiicaaDoor.Fw
open Go.RowKit
variable {P : Program} {F : Fr} {N : Nat} {ρ : Nat → Value} {s : FS} {a : Act} {w : World} {V : View} {π : Nat → Nat}
mutual
def SV.rn (π : Nat → Nat) : SV → SV
 | .p m o => .p (π m) o
 | .ps m o => .ps (π m) o
 | .pr m s i o => .pr (π m) s i o
 | .os m => .os (π m)
 | .ov m z a b => .ov (π m) z a b
 | .agg l => .agg (SV.rnL π l)
 | .tup l => .tup (SV.rnL π l)
 | .fn f l => .fn f (SV.rnL π l)
 | x => x
def SV.rnL (π : Nat → Nat) : List SV → List SV
 | [] => []
 | x :: l => SV.rn π x :: SV.rnL π l
end
def Blk.rn (π : Nat → Nat) : Blk → Blk
 | .var x => .var (x.rn π)
 | b => b
def HU.rn (π : Nat → Nat) : HU → HU
 | .new n b => .new (π n) (b.rn π)
 | .upd n b => .upd (π n) (b.rn π)
 | .del n => .del (π n)
 | .frz n x => .frz (π n) x
 | .set t h => .set (fun k => (t k).rn π) (fun n => (h (π n)).map (Blk.rn π))
def FS.rn (s : FS) (π : Nat → Nat) : FS := ⟨fun k => (s.t k).rn π, fun n => (s.h (π n)).map (Blk.rn π)⟩
mutual
theorem L6 (π : Nat → Nat) : ∀ x : SV, (x.rn π).width = x.width
 | .agg l => by simp only [SV.rn, SV.width]; exact Ob π l
 | .pv _ => rfl
 | .vec _ _ => rfl
 | .tup _ => rfl
 | .p _ _ => rfl
 | .ps _ _ => rfl
 | .pr _ _ _ _ => rfl
 | .pi _ _ _ _ => rfl
 | .os _ => rfl
 | .ov _ _ _ _ => rfl
 | .fn _ _ => rfl
 | .dead => rfl
theorem Ob (π : Nat → Nat) : ∀ l : List SV, SV.widthL (SV.rnL π l) = SV.widthL l
 | [] => rfl
 | x :: l => by simp only [SV.rnL, SV.widthL, L6 π x, Ob π l]
end
mutual
theorem Conc.rn (hπ : ∀ n, π (π n) = n) : ∀ {x : SV} {v}, Conc V ρ x v → Conc V (fun n => ρ (π n)) (x.rn π) v
 | .pv x, v, h => by simp only [SV.rn, Conc] at *; exact h
 | .vec n cs, v, h => by simp only [SV.rn, Conc] at *; exact h
 | .agg l, v, h => by simp only [SV.rn, Conc] at *; obtain ⟨vs, a, b⟩ := h; exact ⟨vs, a, Cells.rn hπ b⟩
 | .tup l, v, h => by simp only [SV.rn, Conc] at *; obtain ⟨vs, a, b⟩ := h; exact ⟨vs, a, ConcL.rn hπ b⟩
 | .p m off, v, h => by simp only [SV.rn, Conc, hπ] at *; exact h
 | .ps m off, v, h => by simp only [SV.rn, Conc, hπ] at *; exact h
 | .pr m sz i off, v, h => by simp only [SV.rn, Conc, hπ] at *; exact h
 | .pi sz es i off, v, h => by simp only [SV.rn, Conc] at *; exact h
 | .os m, v, h => by simp only [SV.rn, Conc, hπ] at *; exact h
 | .ov m z a b, v, h => by simp only [SV.rn, Conc, hπ] at *; exact h
 | .fn f cap, v, h => by simp only [SV.rn, Conc] at *; obtain ⟨vs, a, b⟩ := h; exact ⟨vs, a, ConcL.rn hπ b⟩
 | .dead, v, h => by simp only [SV.rn, Conc]
theorem ConcL.rn (hπ : ∀ n, π (π n) = n) : ∀ {l : List SV} {vs}, ConcL V ρ l vs → ConcL V (fun n => ρ (π n)) (SV.rnL π l) vs
 | [], vs, h => by simp only [SV.rnL, ConcL] at *; exact h
 | x :: l, vs, h => by simp only [SV.rnL, ConcL] at *; obtain ⟨u, us, a, b, c⟩ := h; exact ⟨u, us, a, Conc.rn hπ b, ConcL.rn hπ c⟩
theorem Cells.rn (hπ : ∀ n, π (π n) = n) : ∀ {l : List SV} {vs}, Cells V ρ l vs → Cells V (fun n => ρ (π n)) (SV.rnL π l) vs
 | [], vs, h => by simp only [SV.rnL, Cells] at *; exact h
 | x :: l, vs, h => by
   simp only [SV.rnL, Cells] at *;obtain ⟨u, us, a, b, c, d, e⟩ := h;exact ⟨u, us, a, Conc.rn hπ b, by rw [L6]; exact c, d, Cells.rn hπ e⟩
end
mutual
theorem Yy (hπ : ∀ n, π (π n) = n) : ∀ x : SV, (x.rn π).rn π = x
 | .pv x => rfl
 | .vec n cs => rfl
 | .agg l => by simp only [SV.rn, Fv hπ l]
 | .tup l => by simp only [SV.rn, Fv hπ l]
 | .p m off => by simp only [SV.rn, hπ]
 | .ps m off => by simp only [SV.rn, hπ]
 | .pr m sz i off => by simp only [SV.rn, hπ]
 | .pi sz es i off => rfl
 | .os m => by simp only [SV.rn, hπ]
 | .ov m z a b => by simp only [SV.rn, hπ]
 | .fn f cap => by simp only [SV.rn, Fv hπ cap]
 | .dead => rfl
theorem Fv (hπ : ∀ n, π (π n) = n) : ∀ l : List SV, SV.rnL π (SV.rnL π l) = l
 | [] => rfl
 | x :: l => by simp only [SV.rnL, Yy hπ x, Fv hπ l]
end
theorem Ve (hπ : ∀ n, π (π n) = n) (b : Blk) : (b.rn π).rn π = b := by
 cases b with
 | var x => simp only [Blk.rn, Yy hπ x]
 | row sz es => rfl
 | rowc sz es c => rfl
 | it l p => rfl
theorem Own.rn (hπ : ∀ n, π (π n) = n) {n : Nat} {blk : Blk} (h : Own w V ρ (π n) blk) : Own w V (fun n => ρ (π n)) n (blk.rn π) := by
 cases blk with
 | var x =>
   obtain ⟨b, vs, ty, fr, u, g1, g2, g3, g4, g5, g6, g7⟩ := h;exact ⟨b, vs, ty, fr, u, g1, g2, g3, g4.rn hπ, g5, by rw [L6]; exact g6, g7⟩
 | row sz es => exact h
 | rowc sz es c => exact h
 | it l p => exact h
theorem RelR.rn (hπ : ∀ n, π (π n) = n) (h : RelR F N ρ s a w) : RelR F N (fun n => ρ (π n)) (s.rn π) a w := by
 have hh : ∀ n x, (s.rn π).h n = some x → ∃ y, s.h (π n) = some y ∧ x = y.rn π := fun n x hx => by
  obtain ⟨y, h1, h2⟩ := Option.map_eq_some_iff.1 hx;exact ⟨y, h1, h2.symm⟩
 have how : ∀ b, Ba (fun n => ρ (π n)) (s.rn π).h b ↔ Ba ρ s.h b := fun b => by
  constructor
  · rintro ⟨n, x, h1, h2⟩;obtain ⟨y, h3, _⟩ := hh n x h1;exact ⟨π n, y, h3, h2⟩
  · rintro ⟨n, x, h1, h2⟩;exact ⟨π n, x.rn π, by simp only [FS.rn, hπ, h1]; rfl, by simpa only [hπ] using h2⟩
 have hV : Aj w (F.out (fun n => ρ (π n)) (s.rn π).h) = Aj w (F.out ρ s.h) := by
  congr 1;funext b;exact propext (or_congr_left (how b))
 refine ⟨h.fr, fun b hb => h.may b ((how b).1 hb), fun n x hx => ?_, fun n m x y b hn hm hbn hbm => ?_, fun n => ?_, h.size, h.defers⟩
 · obtain ⟨y, h1, rfl⟩ := hh n x hx;rw [hV];exact (h.own (π n) y h1).rn hπ
 · obtain ⟨x', h1, _⟩ := hh n x hn;obtain ⟨y', h2, _⟩ := hh m y hm;have := h.inj (π n) (π m) x' y' b h1 h2 hbn hbm;have := congrArg π this;simpa only [hπ] using this
 · rw [hV];exact (h.tmps n).rn hπ
mutual
theorem P1 (hπ : ∀ n, π (π n) = n) (n : Nat) : ∀ x : SV, (x.kill n).rn π = (x.rn π).kill (π n)
 | .pv x => rfl
 | .vec m cs => rfl
 | .agg l => by simp only [SV.kill, SV.rn, I6 hπ n l]
 | .tup l => by simp only [SV.kill, SV.rn, I6 hπ n l]
 | .p m off => by simp only [SV.kill, SV.rn, (Ka hπ n m)]; split <;> simp only [SV.rn]
 | .ps m off => by simp only [SV.kill, SV.rn, (Ka hπ n m)]; split <;> simp only [SV.rn]
 | .pr m sz i off => by simp only [SV.kill, SV.rn, (Ka hπ n m)]; split <;> simp only [SV.rn]
 | .pi sz es i off => rfl
 | .os m => by simp only [SV.kill, SV.rn, (Ka hπ n m)]; split <;> simp only [SV.rn]
 | .ov m z a b => by simp only [SV.kill, SV.rn, (Ka hπ n m)]; split <;> simp only [SV.rn]
 | .fn f cap => by simp only [SV.kill, SV.rn, I6 hπ n cap]
 | .dead => rfl
theorem I6 (hπ : ∀ n, π (π n) = n) (n : Nat) : ∀ l : List SV, SV.rnL π (SV.killL n l) = SV.killL (π n) (SV.rnL π l)
 | [] => rfl
 | x :: l => by simp only [SV.killL, SV.rnL, P1 hπ n x, I6 hπ n l]
theorem Ka (hπ : ∀ n, π (π n) = n) (n m : Nat) : (π n = π m) = (n = m) := propext ⟨fun h => by have := congrArg π h; simpa only [hπ] using this, fun h => by rw [h]⟩
end
mutual
theorem Ta (hπ : ∀ n, π (π n) = n) (n : Nat) (v : PV) : ∀ x : SV, (x.frz n v).rn π = (x.rn π).frz (π n) v
 | .pv x => rfl
 | .vec m cs => rfl
 | .agg l => by simp only [SV.frz, SV.rn, Lv hπ n v l]
 | .tup l => by simp only [SV.frz, SV.rn, Lv hπ n v l]
 | .p m off => rfl
 | .ps m off => rfl
 | .pr m sz i off => rfl
 | .pi sz es i off => rfl
 | .os m => by simp only [SV.frz, SV.rn, (Ka hπ n m)]; split <;> simp only [SV.rn]
 | .ov m z a b => rfl
 | .fn f cap => by simp only [SV.frz, SV.rn, Lv hπ n v cap]
 | .dead => rfl
theorem Lv (hπ : ∀ n, π (π n) = n) (n : Nat) (v : PV) : ∀ l : List SV, SV.rnL π (SV.frzL n v l) = SV.frzL (π n) v (SV.rnL π l)
 | [] => rfl
 | x :: l => by simp only [SV.frzL, SV.rnL, Ta hπ n v x, Lv hπ n v l]
end
theorem Abe (hπ : ∀ n, π (π n) = n) (n : Nat) (b : Blk) : (b.kill n).rn π = (b.rn π).kill (π n) := by
 cases b with
 | var x => simp only [Blk.kill, Blk.rn, P1 hπ n x]
 | row sz es => rfl
 | rowc sz es c => rfl
 | it l p => rfl
theorem Aey (hπ : ∀ n, π (π n) = n) (n : Nat) (v : PV) (b : Blk) : (b.frz n v).rn π = (b.rn π).frz (π n) v := by
 cases b with
 | var x => simp only [Blk.frz, Blk.rn, Ta hπ n v x]
 | row sz es => rfl
 | rowc sz es c => rfl
 | it l p => rfl
theorem Afx (hπ : ∀ n, π (π n) = n) (n m : Nat) : (π n = m) = (n = π m) := propext ⟨fun h => by rw [← h, hπ], fun h => by rw [h, hπ]⟩
theorem Yo (hπ : ∀ n, π (π n) = n) (n : Nat) (s : FS) : (s.kill n).rn π = (s.rn π).kill (π n) := by
 refine FS.ext' (fun k => P1 hπ n _) (fun k => ?_);simp only [FS.kill, FS.rn, Option.map_map];cases s.h (π k) with
 | none => rfl
 | some b => simp only [Option.map_some, Function.comp, Abe hπ n b]
theorem Pk (hπ : ∀ n, π (π n) = n) (n : Nat) (b : Option Blk) (s : FS) : (s.seth n b).rn π = (s.rn π).seth (π n) (b.map (Blk.rn π)) := by
 refine FS.ext' (fun k => rfl) (fun k => ?_);simp only [FS.seth, FS.rn, Afx hπ k n];split <;> rfl
theorem Ac6 (hπ : ∀ n, π (π n) = n) (n : Nat) (v : PV) (s : FS) : (s.frz n v).rn π = (s.rn π).frz (π n) v := by
 refine FS.ext' (fun k => Ta hπ n v _) (fun k => ?_);simp only [FS.frz, FS.rn, Afx hπ k n, Option.map_map];split
 · rfl
 · cases s.h (π k) with
   | none => rfl
   | some b => simp only [Option.map_some, Function.comp, Aey hπ n v b]
theorem Kc (hπ : ∀ n, π (π n) = n) : ∀ (u : List HU) (s : FS), (s.hup u).rn π = (s.rn π).hup (u.map (HU.rn π))
 | [], s => rfl
 | .new n b :: u, s => by simp only [FS.hup, List.map_cons, HU.rn, Kc hπ u, Pk hπ, Yo hπ]; rfl
 | .upd n b :: u, s => by simp only [FS.hup, List.map_cons, HU.rn, Kc hπ u, Pk hπ]; rfl
 | .del n :: u, s => by simp only [FS.hup, List.map_cons, HU.rn, Kc hπ u, Pk hπ]; rfl
 | .frz n v :: u, s => by simp only [FS.hup, List.map_cons, HU.rn, Kc hπ u, Ac6 hπ]
 | .set t h :: u, s => by simp only [FS.hup, List.map_cons, HU.rn, Kc hπ u]; rfl
mutual
theorem Akc (hπ : ∀ n, π (π n) = n) {k : Nat} : ∀ {x : SV}, k ∈ tn (x.rn π) → π k ∈ tn x
 | .p m o, h => by simp only [SV.rn, tn, List.mem_singleton] at *; rw [h, hπ]
 | .ps m o, h => by simp only [SV.rn, tn, List.mem_singleton] at *; rw [h, hπ]
 | .pr m z i o, h => by simp only [SV.rn, tn, List.mem_singleton] at *; rw [h, hπ]
 | .os m, h => by simp only [SV.rn, tn, List.mem_singleton] at *; rw [h, hπ]
 | .ov m z a b, h => by simp only [SV.rn, tn, List.mem_singleton] at *; rw [h, hπ]
 | .fn f cap, h => by simp only [SV.rn, tn] at *; exact Ha hπ h
 | .pv _, h => by simp [SV.rn, tn] at h
 | .vec _ _, h => by simp [SV.rn, tn] at h
 | .agg l, h => by simp only [SV.rn, tn] at *; exact Ha hπ h
 | .tup l, h => by simp only [SV.rn, tn] at *; exact Ha hπ h
 | .pi _ _ _ _, h => by simp [SV.rn, tn] at h
 | .dead, h => by simp [SV.rn, tn] at h
theorem Ha (hπ : ∀ n, π (π n) = n) {k : Nat} : ∀ {l : List SV}, k ∈ Ax (SV.rnL π l) → π k ∈ Ax l
 | [], h => by simp [SV.rnL, Ax] at h
 | x :: l, h => by
   simp only [SV.rnL, Ax, List.mem_append] at *;exact h.imp (Akc hπ) (Ha hπ)
end
theorem Afg (hπ : ∀ n, π (π n) = n) (F : Fr) (w : World) (ρ : Nat → Value) (s : FS) : vw F w (fun n => ρ (π n)) (s.rn π) = vw F w ρ s := by
 show Aj w _ = Aj w _;congr 1;funext b;refine propext (or_congr_left ⟨?_, ?_⟩)
 · rintro ⟨n, x, h1, h2⟩;obtain ⟨y, h3, _⟩ := Option.map_eq_some_iff.1 h1;exact ⟨π n, y, h3, h2⟩
 · rintro ⟨n, x, h1, h2⟩;exact ⟨π n, x.rn π, by simp only [FS.rn, hπ, h1]; rfl, by simpa only [hπ] using h2⟩
theorem FunOk.rn (hπ : ∀ n, π (π n) = n) {f : Nat} {args : List SV} {h : Nat → Option Blk} {d d' : Nat} {x : SV} {u : List HU} (hf : FunOk P f args h d x u) :
 FunOk P f (SV.rnL π args) (fun n => (h (π n)).map (Blk.rn π)) d' (x.rn π) (u.map (HU.rn π)) := by
 refine ⟨hf.1, fun F N ρ s a w hR hh vs hc => ?_⟩;have hR' := hR.rn hπ;have hc' : ConcL (vw F w (fun n => ρ (π n)) (s.rn π)) (fun n => ρ (π n)) args vs := by
  rw [Afg hπ];have := hc.rn hπ
  rwa [Fv hπ] at this
 refine Calls.mono (hf.2 F N _ _ a w hR' (fun n hn => ?_) vs hc') fun e w' he => ?_
 · have hm : π n ∈ Ax (SV.rnL π args) := by
    have := Ha hπ (k := π n) (l := SV.rnL π args);rw [Fv hπ, hπ] at this;refine Classical.byContradiction fun hno => ?_;have key : ∀ (l : List SV) (k : Nat), k ∈ Ax l → π k ∈ Ax (SV.rnL π l) := fun l k hk => by
     have := Ha hπ (k := π (π k)) (l := SV.rnL π l);rw [Fv hπ, hπ] at this;exact this hk
    exact hno (key args n hn)
   have := hh (π n) hm;simp only [FS.rn];rw [this];simp only [hπ];cases h n with
   | none => rfl
   | some b => simp only [Option.map_some, Ve hπ]
 · obtain ⟨v, ρ', rfl, h1, h2⟩ := he;have h1' := h1.rn hπ;have e : ((s.rn π).hup u).rn π = s.hup (u.map (HU.rn π)) := by
    rw [Kc hπ];congr 1;refine FS.ext' (fun k => Yy hπ _) (fun k => ?_);simp only [FS.rn, hπ, Option.map_map];cases s.h k with
    | none => rfl
    | some b => simp only [Option.map_some, Function.comp, Ve hπ]
   rw [e] at h1';refine ⟨v, _, rfl, h1', ?_⟩;have h2' := h2.rn hπ;have ev := Afg hπ F w' ρ' ((s.rn π).hup u);rw [e] at ev;rw [ev];exact h2'
theorem FunOk.at {f : Nat} {args : List SV} {h h' : Nat → Option Blk} {d : Nat} {x : SV} {u : List HU} (hf : FunOk P f args h d x u) (hh : ∀ n ∈ Ax args, h' n = h n) : FunOk P f args h' d x u :=
 ⟨hf.1, fun F N ρ s a w hR hs vs hc => hf.2 F N ρ s a w hR (fun n hn => (hs n hn).trans (hh n hn)) vs hc⟩
def sw1 (a m : Nat) (k : Nat) : Nat := if k = a then m else if k = m then a else k
theorem Ub (a m : Nat) (k : Nat) : sw1 a m (sw1 a m k) = k := by unfold sw1; split <;> (try split) <;> (try split) <;> omega
def Yf (a m b n : Nat) (k : Nat) : Nat := if k = a then m else if k = m then a else if k = b then n else if k = n then b else k
theorem Acx {a m b n : Nat} (h1 : a ≠ b) (h2 : a ≠ n) (h3 : m ≠ b) (h4 : m ≠ n) (k : Nat) : Yf a m b n (Yf a m b n k) = k := by unfold Yf; repeat' split <;> (try omega)
end Go.Proofs.YthleeikkpjiicaaDoor.Fw
namespace Go.Proofs.YthleeikkpjiicaaDoor.Fw
open Go.RowKit
abbrev iM (d n : Nat) : I := ⟨.mv, [.t n], some d, none⟩
abbrev iJ (k : Kd) (x : List Opd) (d : Nat) : I := ⟨k, x, some d, none⟩
abbrev iO (k : Kd) (x : List Opd) : I := ⟨k, x, none, none⟩
abbrev iG (k : Kd) (x : List Opd) (d g : Nat) (w : Bool) : I := ⟨k, x, some d, some (g, w)⟩
abbrev cI (n : Int) : Opd := .c (.pv (.i .i64 n))
section
variable (E : Env)
def U9 (D ps : List Nat) (c j : Nat) (d : Option Nat) (T : List Nat) (acc : List (Nat × List Nat)) (l : List (I × Nat × List Nat × List Nat × Nat)) (Q : Bi) (s : FS) : KK :=
 fun x u => okP D c (d.getD 1000000000) x u T ∧ Yu acc ps T ∧ sxP E l (Afb c j T acc) Q (s.apply d x u)
def gdP (D ps : List Nat) (c j : Nat) (k : Kd) (x : List Opd) (d : Nat) (T : List Nat) (acc : List (Nat × List Nat)) (l : List (I × Nat × List Nat × List Nat × Nat)) (Q : Bi) (s : FS) : Prop := body E k x d s (U9 E D ps c j (some d) T acc l Q s)
def skP (D ps : List Nat) (c j : Nat) (d : Nat) (T : List Nat) (acc : List (Nat × List Nat)) (l : List (I × Nat × List Nat × List Nat × Nat)) (Q : Bi) (s : FS) : Prop := U9 E D ps c j (some d) T acc l Q s (.tup []) []
theorem K7 (D ps c j k x d T acc l Q s) : gdP E D ps c j k x d T acc l Q s = body E k x d s (U9 E D ps c j (some d) T acc l Q s) := (rfl)
theorem K6 (D ps c j d T acc l Q s) : skP E D ps c j d T acc l Q s = U9 E D ps c j (some d) T acc l Q s (.tup []) [] := (rfl)
variable {E}
end
abbrev iU (k : Kd) (n d : Nat) : I := ⟨k, [.t n], some d, none⟩
abbrev iD (k : Kd) (m n d : Nat) : I := ⟨k, [.t m, .t n], some d, none⟩
abbrev iV (k : Kd) (n d g : Nat) (w : Bool) : I := ⟨k, [.t n], some d, some (g, w)⟩
abbrev L1 : Kd := .ld 1 false
abbrev L2 : Kd := .ld 2 true
abbrev L8 : Kd := .ld 8 true
abbrev B1 : Kd := .bin .eql
abbrev B2 : Kd := .bin .add
abbrev B3 : Kd := .bin .lss
abbrev B4 : Kd := .bin .gtr
abbrev B5 : Kd := .bin .sub
abbrev B6 : Kd := .bin .neq
abbrev B7 : Kd := .bin .leq
abbrev B8 : Kd := .bin .geq
abbrev U1 : Kd := .un .not
abbrev S1 : Kd := .sto 1
abbrev zV : SV := .vec 8 (List.replicate 8 (.i .u32 0))
abbrev zW : SV := .vec 8 (List.replicate 8 (.i .i64 0))
abbrev zX : SV := .vec 8 (List.replicate 8 (.b false))
abbrev zN : SV := .pv (.sl true 0 [])
abbrev zI : SV := .pv (.i .i64 0)
abbrev zU : SV := .pv (.i .u32 0)
abbrev zF : SV := .pv (.b false)
abbrev zS : SV := .pv (.s [])
abbrev zT : SV := .pv (.b true)
abbrev jP (a b d : Nat) : I := ⟨.pick, [.t a, .c zT, .t b], some d, none⟩
abbrev jQ (a b d : Nat) : I := ⟨.pick, [.t a, .t b, .c zF], some d, none⟩
abbrev jC (n : Int) (d : Nat) : I := ⟨.mv, [cI n], some d, none⟩
abbrev jW (z a b : Nat) : I := ⟨.sto z, [.t a, .t b], none, none⟩
abbrev jF (o n d : Nat) : I := ⟨.fa o, [.t n], some d, none⟩
abbrev jK (k : Kd) (a : Nat) (n : Int) (d : Nat) : I := ⟨k, [.t a, cI n], some d, none⟩
abbrev jA (k : Kd) (n d g : Nat) : I := ⟨k, [.t n], some d, some (g, true)⟩
abbrev jB (k : Kd) (n d g : Nat) : I := ⟨k, [.t n], some d, some (g, false)⟩
abbrev jE (d : Nat) : I := ⟨.new (.agg [zI, zU, zV, zI, zI, zU, zI, zU, zS, zN, zN, zI, zS, zI]), [], some d, none⟩
abbrev jL (o n d g : Nat) : I := ⟨.fa o, [.t n], some d, some (g, true)⟩
abbrev jN (o n d g : Nat) : I := ⟨.fa o, [.t n], some d, some (g, false)⟩
abbrev jS (l : List I) (c : C) : C := .seq (.ops l) c
abbrev jI (n : Nat) (a : C) : C := .ite (.t n) a .skip
attribute [go_sem] L1 L2 L8 B1 B2 B3 B4 B5 B6 B7 B8 U1 S1 zV zW zX zN zI zU zF zS zT
end Go.Proofs.YthleeikkpjiicaaDoor.Fw
namespace Go.Proofs.YthleeikkpjiicaaDoor.Fw
open Go.RowKit
variable {P : Program} {F : Fr} {N : Nat} {ρ ρ' : Nat → Value} {s : FS} {a : Act} {w w' : World} {V V' : View}
def Blk.ptr (n : Nat) : Blk → SV
 | .var _ => .p n 0
 | .row _ _ => .os n
 | _ => .dead
def Blk.plain : Blk → Bool
 | .var x => x.closed
 | .row _ _ => true
 | _ => false
theorem Own.closed {n m : Nat} {blk : Blk} (hb : blk.plain = true) (hV : V.le V') (he : ρ n = ρ' m) (h : Own w V ρ' m blk) : Own w V' ρ n blk := by
 cases blk with
 | var x =>
   obtain ⟨b, vs, ty, fr, u, g1, g2, g3, g4, g5, g6, g7⟩ := h;exact ⟨b, vs, ty, fr, u, he.trans g1, g2, g3, Bh hV hb g4, g5, g6, g7⟩
 | row sz es =>
   obtain ⟨base, cap, g1, g2, g3, g4, g5⟩ := h;refine ⟨base, cap, he.trans g1, g2, g3, g4, fun hc => ?_⟩;obtain ⟨b, vs, ty, fr, k1, k2, k3, k4, k5, k6⟩ := g5 hc;exact ⟨b, vs, ty, fr, k1, k2, k3, k4, k5, fun i c hi => (k6 i c hi).mono hV⟩
 | rowc sz es c => cases hb
 | it l p => cases hb
theorem Un {n : Nat} {blk : Blk} (hb : (blk.ptr n).kill n ≠ blk.ptr n) (h : Own w V ρ n blk) : Conc V ρ (blk.ptr n) (ρ n) := by
 cases blk with
 | var x =>
   obtain ⟨b, vs, ty, fr, u, g1, _⟩ := h;simp only [Blk.ptr, Conc];exact ⟨b, g1, g1⟩
 | row sz es =>
   obtain ⟨base, cap, g1, _⟩ := h;simp only [Blk.ptr, Conc];exact ⟨trivial, by rw [g1]; trivial⟩
 | rowc sz es c => simp only [Blk.ptr, SV.kill] at hb; exact absurd rfl hb
 | it l p => simp only [Blk.ptr, SV.kill] at hb; exact absurd rfl hb
theorem Y4 {n m : Nat} {b b' : Blk} {v : Value} (hp : b'.ptr m = b.ptr m) (hb : (b.ptr n).kill n ≠ b.ptr n) (h : Conc V ρ (b.ptr n) v) (h' : Conc V' ρ' (b'.ptr m) v) : ρ n = ρ' m := by
 rw [hp] at h';cases b with
 | var x =>
   simp only [Blk.ptr, Conc] at h h';obtain ⟨p, e1, e2⟩ := h;obtain ⟨q, e3, e4⟩ := h';rw [e1, e3, ← e2, ← e4]
 | row sz es =>
   simp only [Blk.ptr, Conc] at h h';rw [← h.1, ← h'.1]
 | rowc sz es c => simp only [Blk.ptr, SV.kill] at hb; exact absurd rfl hb
 | it l p => simp only [Blk.ptr, SV.kill] at hb; exact absurd rfl hb
theorem Hh (hm : P.follows .mixedOrders = true) {f N' : Nat} {rs : List Rv} {c : C} (hf : Bj P f = some (N', rs, c)) {args : List SV} {h : Nat → Option Blk} {d g : Nat} {blk blk' : Blk} {x : SV} (hlen : args.length ≤ N')
 (hts : ∀ n ∈ Ax args, n = g) (hgt : g ∈ Ax args) (hg : h g = some blk) (hx : x.closed = true) (hp : (blk.ptr g).kill g ≠ blk.ptr g) (hb' : blk'.plain = true) (hpp : ∀ m, blk'.ptr m = blk.ptr m)
 (hrun : ∀ F, sx (env P F N') c (Afc rs fun y s => y = x ∧ ∃ m, s.t 1000000 = blk'.ptr m ∧ s.h m = some blk') (mk (C1 0 args ++ [(1000000, blk.ptr g)]) [(g, some blk)])) :
 FunOk P f args h d x [.upd g blk'] := by
 refine ⟨Cj hf, fun F N ρ s a w hR hh vs hc => ?_⟩;have hsg : s.h g = some blk := (hh g hgt).trans hg;have hvl : vs.length = args.length := by
  clear hrun hlen hts hh hgt
  induction args generalizing vs with
  | nil => simp only [ConcL] at hc; subst hc; rfl
  | cons x l ih =>
    simp only [ConcL] at hc;obtain ⟨v, us, rfl, _, h⟩ := hc;simp [ih _ h]
 let F' : Fr := ⟨w, P0 ρ s.h [g], F.out ρ (Av s [g]).h, fun _ => ρ g, []⟩
 have hmine : ∀ b, P0 ρ s.h [g] b ↔ Bg (ρ g) = some b := fun b => by
  constructor
  · rintro ⟨n, hn, x, h1, h2⟩;simp only [List.mem_singleton] at hn; subst hn; exact h2
  · intro hb; exact ⟨g, List.mem_singleton.2 rfl, blk, hsg, hb⟩
 have hlk : ∀ n, lk none n [(g, some blk)] = if n = g then some blk else none := fun n => by simp only [lk]
 have how : ∀ b, Ba ρ (mk (C1 0 args ++ [(1000000, blk.ptr g)]) [(g, some blk)]).h b ↔ P0 ρ s.h [g] b := fun b => by
  rw [hmine];constructor
  · rintro ⟨n, x, h1, h2⟩;simp only [mk, hlk] at h1;split at h1
    · rename_i e; subst e; exact h2
    · cases h1
  · intro hb; exact ⟨g, blk, by simp [mk, lk], hb⟩
 have hoth : ∀ b, Ba ρ (Av s [g]).h b ↔ ∃ n, n ≠ g ∧ ∃ x, s.h n = some x ∧ Bg (ρ n) = some b := fun b => by
  constructor
  · rintro ⟨n, x, h1, h2⟩;simp only [Av, List.mem_singleton] at h1; split at h1
    · cases h1
    · rename_i hn; exact ⟨n, hn, x, h1, h2⟩
  · rintro ⟨n, hn, x, h1, h2⟩;exact ⟨n, x, by simp only [Av, List.mem_singleton, if_neg hn]; exact h1, h2⟩
 have hview : Aj w (F'.out ρ (mk (C1 0 args ++ [(1000000, blk.ptr g)]) [(g, some blk)]).h) = vw F w ρ s := by
  show Aj w _ = Aj w _;congr 1;funext b;refine propext ⟨fun hb => ?_, fun hb => ?_⟩
  · rcases hb with hb | hb
    · obtain ⟨n, _, x, h1, h2⟩ := (how b).1 hb; exact .inl ⟨n, x, h1, h2⟩
    · rcases hb with hb | hb
      · obtain ⟨n, _, x, h1, h2⟩ := (hoth b).1 hb; exact .inl ⟨n, x, h1, h2⟩
      · exact .inr hb
  · rcases hb with ⟨n, x, h1, h2⟩ | hb
    · by_cases hn : n = g
      · subst hn; exact .inl ((how b).2 ((hmine b).2 h2))
      · exact .inr (.inl ((hoth b).2 ⟨n, hn, x, h1, h2⟩))
    · exact .inr (.inr hb)
 have hgl : ∀ (k : Nat) (l : List SV) (n : Nat) (t : List (Nat × SV)), (∀ i, k ≤ i → i < k + l.length → i ≠ n) → lk .dead n (C1 k l ++ t) = lk .dead n t := by
  intro k l
  induction l generalizing k with
  | nil => intro n t _; rfl
  | cons y l ih =>
    intro n t hn;simp only [C1, List.cons_append, lk];rw [if_neg fun e => hn k (Nat.le_refl k) (by simp) e.symm];exact ih (k + 1) n t fun i h1 h2 => hn i (by omega) (by simp only [List.length_cons]; omega)
 have hap : ∀ (k : Nat) (l : List SV) (n : Nat) (t : List (Nat × SV)), k ≤ n → n < k + l.length → lk .dead n (C1 k l ++ t) = lk .dead n (C1 k l) := by
  intro k l
  induction l generalizing k with
  | nil => intro n t h1 h2; simp at h2; omega
  | cons y l ih =>
    intro n t h1 h2;simp only [C1, List.cons_append, lk];split
    · rfl
    · exact ih (k + 1) n t (by omega) (by simp only [List.length_cons] at h2; omega)
 have hN := Qc hf;have hR0 : RelR F' N' ρ (mk (C1 0 args ++ [(1000000, blk.ptr g)]) [(g, some blk)]) { tmps := (⟨vs⟩ : Array Value) ++ Array.replicate (N' - (⟨vs⟩ : Array Value).size) undef, defers := [] } w := by
  refine ⟨⟨rfl, rfl, rfl, Nat.le_refl _, fun _ _ _ => rfl, fun b hb => ⟨?_, fun hmi => ?_⟩, ⟨hR.tabW, fun p hp hmi => hR.tabN hp ⟨g, blk, hsg, (hmine p.1).1 hmi⟩⟩⟩, fun b hb => .inr ((how b).1 hb), fun n x hx => ?_, fun n m x y b hx hy hbx hby => ?_, fun n => ?_, by simp; omega, rfl⟩
  · rcases hb with hb | hb
    · obtain ⟨n, _, x, h1, h2⟩ := (hoth b).1 hb; exact (hR.own n x h1).lt h2
    · exact Nat.lt_of_lt_of_le (hR.fr.hid b hb).1 hR.fr.size
  · have hmb := (hmine b).1 hmi;rcases hb with hb | hb
    · obtain ⟨m, hm, y, g1, g2⟩ := (hoth b).1 hb;exact hm (hR.inj m g y blk b g1 hsg g2 hmb)
    · exact hR.shown ⟨g, blk, hsg, hmb⟩ hb
  · rw [hview];simp only [mk, hlk] at hx; split at hx
    · rename_i e; subst e; cases hx; exact hR.own _ _ hsg
    · cases hx
  · simp only [mk, hlk] at hx hy;split at hx
    · split at hy
      · rename_i e1 e2; rw [e1, e2]
      · cases hy
    · cases hx
  · rw [hview];simp only [mk];unfold Fr.val;by_cases hb : n < Ii
    · rw [if_pos hb];have he : ((⟨vs⟩ : Array Value) ++ Array.replicate (N' - (⟨vs⟩ : Array Value).size) undef).getD n undef = (vs[n]?).getD undef := by
       rw [Array.getD_eq_getD_getElem?];by_cases hn : n < vs.length
       · rw [Array.getElem?_append_left (by simpa using hn)]; simp
       · rw [Array.getElem?_append_right (by simpa using hn)];rw [List.getElem?_eq_none (by omega)];simp only [Array.getElem?_replicate, Option.getD_none];split <;> rfl
      rw [he];have := Fl 0 n hc;simp only [Nat.zero_le, if_true, Nat.sub_zero] at this;by_cases hn : n < args.length
      · rw [hap 0 args n _ (Nat.zero_le n) (by omega)]; exact this
      · rw [hgl 0 args n _ fun i h1 h2 => by omega];have : n ≠ 1000000 := fun e => by rw [e] at hb; exact Nat.lt_irrefl _ hb
        simp only [lk, if_neg this, Conc]
    · rw [if_neg hb, hgl 0 args n _ fun i h1 h2 => by omega];simp only [lk];split
      · exact Un hp (hR.own g blk hsg)
      · simp only [Conc]
 refine Calls.mono (Ie hm hf rfl hR0.fr (fun b hb => by
  obtain ⟨n, hn, x, h1, h2⟩ := hb;exact (hR.own n x h1).lt h2) hR0 Ag2 (hrun F')) fun e w' he => ?_
 obtain ⟨v, ρ', s', a', y, rfl, hR', hy, hyx, m, ht, hm'⟩ := he;subst hyx;have hadr : ρ g = ρ' m := by
  have h1 := hR'.tmps 1000000;rw [ht] at h1;have e : F'.val a' 1000000 = ρ g := by
   unfold Fr.val;rw [if_neg (show ¬ (1000000 : Nat) < Ii from Nat.lt_irrefl _)]
  rw [e] at h1;exact Y4 (hpp m) hp (Un hp (hR.own g blk hsg)) h1
 have hout2 : ∀ b, F.out ρ (s.hup [.upd g blk']).h b → F'.out ρ' s'.h b := fun b hb => by
  rcases hb with ⟨n, z, h1, h2⟩ | hb
  · by_cases hn : n = g
    · subst hn;exact .inl ⟨m, blk', hm', by rw [← hadr]; exact h2⟩
    · have h1' : s.h n = some z := by simpa [FS.hup, FS.seth, hn] using h1
      exact .inr (.inl ((hoth b).2 ⟨n, hn, z, h1', h2⟩))
  · exact .inr (.inr hb)
 have hV2 : (Aj w' (F'.out ρ' s'.h)).le (Aj w' (F.out ρ (s.hup [.upd g blk']).h)) := A5 fun b c ho hc => ⟨fun hb => ho (hout2 b hb), hc⟩
 have hout1 : ∀ b, F.out ρ (s.hup [.upd g blk']).h b ↔ F.out ρ s.h b := fun b => by
  refine or_congr_left ⟨?_, ?_⟩
  · rintro ⟨n, z, h1, h2⟩;by_cases hn : n = g
    · subst hn; exact ⟨n, blk, hsg, h2⟩
    · exact ⟨n, z, by simpa [FS.hup, FS.seth, hn] using h1, h2⟩
  · rintro ⟨n, z, h1, h2⟩;by_cases hn : n = g
    · subst hn; exact ⟨n, blk', by simp [FS.hup, FS.seth], h2⟩
    · exact ⟨n, z, by simpa [FS.hup, FS.seth, hn] using h1, h2⟩
 have hkeep : ∀ b, b < w.heap.size → Bg (ρ g) ≠ some b → w'.heap[b]? = w.heap[b]? := fun b hb hn => hR'.fr.block b hb fun hmi => hn ((hmine b).1 hmi);have hV1 : (vw F w ρ s).le (Aj w' (F.out ρ (s.hup [.upd g blk']).h)) := A5 fun b c ho hc => by
  refine ⟨fun hb => ho ((hout1 b).1 hb), ?_⟩;have hlt : b < w.heap.size := by
   unfold Bl at hc;cases hx : w.heap[b]? with
   | none => rw [hx] at hc; cases hc
   | some o => exact (Array.getElem?_eq_some_iff.1 hx).1
  rw [Be (hkeep b hlt fun e => ho (.inl ⟨g, blk, hsg, e⟩))];exact hc
 refine ⟨v, ρ, rfl, ⟨⟨hR'.fr.os.trans hR.fr.os, hR'.fr.tape.trans hR.fr.tape, hR'.fr.output.trans hR.fr.output, Nat.le_trans hR.fr.size hR'.fr.size, fun b hlt hM => ?_, hR.fr.hid, hR.fr.tab⟩, fun b hb => ?_, fun n z hz => ?_, fun n k z z' b hn hk hbn hbk => ?_, fun n => (hR.tmps n).mono hV1, hR.size, hR.defers⟩, Bh hV2 hx hy⟩
 · rw [hkeep b (Nat.lt_of_lt_of_le hlt hR.fr.size) fun e => ?_]
   · exact hR.fr.block b hlt hM
   · rcases hR.may b ⟨g, blk, hsg, e⟩ with h1 | h1
     · omega
     · exact hM h1
 · obtain ⟨n, z, h1, h2⟩ := hb;by_cases hn : n = g
   · subst hn; exact hR.may b ⟨n, blk, hsg, h2⟩
   · exact hR.may b ⟨n, z, by simpa [FS.hup, FS.seth, hn] using h1, h2⟩
 · by_cases hn : n = g
   · subst hn;have e : z = blk' := by simpa [FS.hup, FS.seth] using hz.symm
     subst e;exact Own.closed hb' hV2 hadr (hR'.own m _ hm')
   · have h1 : s.h n = some z := by simpa [FS.hup, FS.seth, hn] using hz
     refine (hR.own n z h1).congr hV1 fun b hb => hkeep b ((hR.own n z h1).lt hb) fun e => hn (hR.inj n g z blk b h1 hsg hb e)
 · have f : ∀ (q : Nat) (y : Blk), (s.hup [.upd g blk']).h q = some y → ∃ y', s.h q = some y' := fun q y hq => by
    by_cases e : q = g
    · subst e; exact ⟨blk, hsg⟩
    · exact ⟨y, by simpa [FS.hup, FS.seth, e] using hq⟩
   obtain ⟨z1, e1⟩ := f n z hn;obtain ⟨z2, e2⟩ := f k z' hk;exact hR.inj n k z1 z2 b e1 e2 hbn hbk
end Go.Proofs.YthleeikkpjiicaaDoor.Fw
namespace Go.Proofs.YthleeikkpjiicaaDoor.Fw
open Go.RowKit
variable {P : Program}
end Go.Proofs.YthleeikkpjiicaaDoor.Fw
namespace Go.Proofs.YthleeikkpjiicaaDoor.Fw
open Go.RowKit
variable {P : Program} {F : Fr} {N : Nat} {ρ ρ' : Nat → Value} {s : FS} {a : Act} {w w' : World} {V V' : View}
end Go.Proofs.YthleeikkpjiicaaDoor.Fw
