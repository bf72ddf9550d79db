/- Loops, calls and loops over functions of the small language do in the model what their meaning tells. -/
import Derived.Test.YtagpocgklmeoiaaFwC
set_option linter.unusedVariables false
set_option linter.unusedSimpArgs false
set_option linter.unusedSectionVars false
namespace Go.Proofs.Ytagpocgklmeoiaa.Fw
open Go.RowKit
variable {P : Program} {F : Fr} {N : Nat} {ρ ρ' : Nat → Value} {s : FS} {a : Act} {w w' : World} {V V' : View}
def Cn : Nat → List SV → List (Nat × SV)
 | _, [] => []
 | k, x :: l => (k, x) :: Cn (k + 1) l
inductive Rv where
 | t (n : Nat)
 | c (a size : Nat) (ag : Bool)
def Jx (s : FS) : List Rv → (List SV → Prop) → Prop
 | [], K => K []
 | .t n :: rs, K => Jx s rs fun l => K (s.t n :: l)
 | .c a size ag :: rs, K => Gi s.h size ag (s.t a) fun x u => u = [] ∧ Jx s rs fun l => K (x :: l)
def one : List SV → SV
 | [x] => x
 | l => .tup l
def Auo (rs : List Rv) (R : SV → FS → Prop) : Bx
 | .normal, s => Jx s rs fun l => R (one l) s
 | .ret, s => Jx s rs fun l => R (one l) s
 | _, _ => False
def U2 (rs : List Rv) (R : SV → FS → Prop) (s : FS) : Prop := ∃ s', Wk s s' ∧ Jx s' rs fun l => R (one l) s'
def Agg (rs : List Rv) (R : SV → FS → Prop) : Bx
 | .normal, s => U2 rs R s
 | .ret, s => U2 rs R s
 | _, _ => False
def Tj (rs : List Rv) (R : SV → (Nat → Option Blk) → Prop) : Bx := Auo rs fun y s => R y s.h
def Uy (P : Program) : ResultVar → Option Rv
 | .tmp t => if t < Ft then some (.t t) else none
 | .cell a t => match Ae P t, D3 P t with
   | some sz, some ag => if sz = 0 ∨ Ft ≤ a then none else some (.c a sz ag)
   | _, _ => none
def A8 (P : Program) (f : Nat) : Option (Nat × List Rv × C) := match P.funcs[f]? with
 | some fn => match fn.body, Ak (fn.results.toList.map (Uy P)) with
   | some code, some rs => if fn.name = "runtime.NumGoroutine" ∨ Ft < fn.ntmps then none else (Bc P fn.ntmps code).map fun c => (fn.ntmps, rs, c)
   | _, _ => none
 | none => none
theorem Qt {f : Nat} {rs : List Rv} {c : C} (h : A8 P f = some (N, rs, c)) : ∃ fn code, P.funcs[f]? = some fn ∧ fn.name ≠ "runtime.NumGoroutine" ∧ fn.body = some code ∧ fn.ntmps = N ∧ Ak (fn.results.toList.map (Uy P)) = some rs ∧ Bc P N code = some c := by
 unfold A8 at h;split at h
 · rename_i fn hf;split at h
   · rename_i code rs' hb hr;split at h
     · cases h
     · rename_i hn;obtain ⟨c', hc, e⟩ := Option.map_eq_some_iff.1 h;cases e;exact ⟨fn, code, hf, fun e => hn (.inl e), hb, rfl, hr, hc⟩
   · cases h
 · cases h
theorem Nt {f : Nat} {rs : List Rv} {c : C} (h : A8 P f = some (N, rs, c)) : N ≤ Ft := by
 unfold A8 at h;split at h
 · split at h
   · split at h
     · cases h
     · rename_i hn;obtain ⟨c', hc, e⟩ := Option.map_eq_some_iff.1 h;cases e;exact Nat.le_of_not_lt fun e => hn (.inr e)
   · cases h
 · cases h
theorem Af3 {t : TypeId} {x v : Value} (h : (Instr.loadAt t x).run P w = .ok v w) : (do loadVar t (← asAddr x) : Sem Value).run P w = .ok v w := by
 unfold Instr.loadAt at h;cases x <;> first | exact h | skip
 all_goals first | (rename_i o; cases o <;> first | exact h | (cases h)) | (cases h)
theorem Aby (tmps : Array Value) (g : ResultVar → Sem Value) (hg : ∀ t, g (.tmp t) = pure (tmps.getD t undef)) (hg' : ∀ a t v, (Instr.loadAt t (tmps.getD a undef)).run P w = .ok v w → (g (.cell a t)).run P w = .ok v w) (hR : RelR F N ρ s a w) (ht : a.tmps = tmps) :
 ∀ (vars : List ResultVar) (rs : List Rv) (K : List SV → Prop) (acc : Array Value), Ak (vars.map (Uy P)) = some rs → Jx s rs K →
  ∃ l vs, K l ∧ ConcL (vw F w ρ s) ρ l vs ∧ (List.foldlM (fun (bs : Array Value) r => bs.push <$> g r) acc vars).run P w = .ok (acc ++ (⟨vs⟩ : Array Value)) w
 | [], rs, K, acc, h, hk => by
   simp only [List.map_nil, Ak, Option.some.injEq] at h;subst h;exact ⟨[], [], hk, by simp only [ConcL], by simp⟩
 | x :: vars, rs, K, acc, h, hk => by
   obtain ⟨r, rs', rfl, h1, h2⟩ := Ax (show Ak (Uy P x :: vars.map (Uy P)) = some rs from h);have key : ∀ (v : Value) (y : SV), (g x).run P w = .ok v w → Conc (vw F w ρ s) ρ y v → (Jx s rs' fun l => K (y :: l)) →
    ∃ l vs, K l ∧ ConcL (vw F w ρ s) ρ l vs ∧ (List.foldlM (fun (bs : Array Value) r => bs.push <$> g r) acc (x :: vars)).run P w = .ok (acc ++ (⟨vs⟩ : Array Value)) w := fun v y hv hy hk' => by
    obtain ⟨l, vs, k1, k2, k3⟩ := Aby tmps g hg hg' hR ht vars rs' _ (acc.push v) h2 hk';refine ⟨y :: l, v :: vs, k1, by simp only [ConcL]; exact ⟨v, vs, rfl, hy, k2⟩, ?_⟩;rw [List.foldlM_cons];have : (acc.push <$> g x : Sem (Array Value)).run P w = .ok (acc.push v) w := by
     rw [← bind_pure_comp];rw [Ab hv]; rfl
    rw [Ab this, k3];congr 1;exact Array.toList_inj.1 (by simp)
   cases x with
   | tmp t =>
     simp only [Uy] at h1;split at h1
     · rename_i hb;simp only [Option.some.injEq] at h1;subst h1;simp only [Jx] at hk;refine key (tmps.getD t undef) (s.t t) (by rw [hg]; rfl) ?_ hk;rw [← ht]; exact hR.tm t hb
     · cases h1
   | cell b t =>
     simp only [Uy] at h1;split at h1
     · rename_i sz ag hsz hag;split at h1
       · cases h1
       · rename_i hne;simp only [Option.some.injEq] at h1;subst h1;simp only [Jx] at hk;obtain ⟨v, y, g1, g2, g3⟩ := Aqa (P := P) hR (hR.tm b (by omega)) (by omega) hsz hag hk;exact key v y (hg' b t v (by rw [← ht]; exact g1)) g3 g2.2
     · cases h1
theorem Pj {fn : Func} {rs : List Rv} (hR : RelR F N ρ s a w) (h : Ak (fn.results.toList.map (Uy P)) = some rs) {K : List SV → Prop} (hk : Jx s rs K) :
 ∃ l v, K l ∧ Conc (vw F w ρ s) ρ (one l) v ∧ (results fn a.tmps).run P w = .ok v w := by
 unfold results;rw [Array.mapM_eq_foldlM];rw [← Array.foldlM_toList];obtain ⟨l, vs, h1, h2, h3⟩ := Aby (P := P) a.tmps (fun x => match x with
  | .tmp t => pure (a.tmps.getD t undef)
  | .cell b t => do loadVar t (← asAddr (a.tmps.getD b undef))) (fun _ => rfl) (fun b t v hv => Af3 hv) hR rfl fn.results.toList rs K #[] h hk
 refine ⟨l, _, h1, ?_, (Ab h3).trans rfl⟩;cases l with
 | nil => simp only [ConcL] at h2; subst h2; simp only [one, Conc]; exact ⟨[], rfl, by simp only [ConcL]⟩
 | cons x l =>
   simp only [ConcL] at h2;obtain ⟨v, us, rfl, h4, h5⟩ := h2;cases l with
   | nil => simp only [ConcL] at h5; subst h5; simpa [one] using h4
   | cons y l =>
     have h5' := h5;simp only [ConcL] at h5;obtain ⟨v', us', rfl, h6, h7⟩ := h5;simp only [one, Conc];refine ⟨v :: v' :: us', ?_, by simp only [ConcL]; exact ⟨v, _, rfl, h4, v', us', rfl, h6, h7⟩⟩;simp
theorem Fu : ∀ {args : List SV} {vs : List Value} (k : Nat) (n : Nat), ConcL V ρ args vs → Conc V ρ (lk .dead n (Cn k args)) (if k ≤ n then (vs[n - k]?).getD undef else undef)
 | [], vs, k, n, h => by simp [Cn, lk, Conc]
 | x :: l, vs, k, n, h => by
   simp only [ConcL] at h;obtain ⟨v, us, rfl, h1, h2⟩ := h;simp only [Cn, lk];split
   · rename_i e; subst e; simp; exact h1
   · rename_i e;have := Fu (k + 1) n h2;by_cases hk : k ≤ n
     · have hk' : k + 1 ≤ n := by omega
       rw [if_pos hk'] at this;rw [if_pos hk];have : n - k = (n - (k + 1)) + 1 := by omega
       rw [this]; simpa using Fu (k + 1) n h2 |> fun q => by rw [if_pos hk'] at q; exact q
     · rw [if_neg (by omega)] at this;rw [if_neg hk]; exact this
theorem RelR.obj (h : RelR F N ρ s a w) {l : Nat} {o : Obj} (o' : Obj) (hl : w.heap[l]? = some o) (ho : o.isCells = false) (hlt : l < F.w0.heap.size) (hM : ¬ F.M0 l) : RelR { F with w0 := F.w0.putObj l o' } N ρ s a (w.putObj l o') := by
 have hlw : l < w.heap.size := (Array.getElem?_eq_some_iff.1 hl).1;have hne : ∀ b, Bd ρ s.h b → b ≠ l := fun b hb e => by
  subst e;rcases h.may b hb with h1 | h1
  · omega
  · exact hM h1
 have hV : (Ao w (F.out ρ s.h)).le (Ao (w.putObj l o') (F.out ρ s.h)) := A0 fun b c ho' hc => by
  refine ⟨ho', ?_⟩;have : b ≠ l := fun e => by
   subst e;unfold Cx at hc;rw [hl] at hc;cases o <;> simp_all [Obj.isCells]
  rw [Bv (World.putObj_heap_other this)]; exact hc
 refine ⟨⟨h.fr.os, h.fr.tape, h.fr.output, by simpa using h.fr.size, fun b hb hm => ?_, fun b hb => by simpa using h.fr.hid b hb, ⟨fun p hp => ?_, h.fr.tab.2⟩⟩, fun b hb => by simpa using h.may b hb, fun n x hx => ?_, h.inj, fun n => (h.tmps n).mono hV, h.size, h.defers⟩
 · by_cases e : b = l
   · subst e;rw [World.putObj_heap_same hlw, World.putObj_heap_same hlt]
   · rw [World.putObj_heap_other e, World.putObj_heap_other e];exact h.fr.block b (by simpa using hb) hm
 · have h1 := h.fr.tab.1 p hp;have : p.1 ≠ l := fun e => by
    rw [e] at h1;unfold Cx at h1;rw [← h.fr.block l hlt hM, hl] at h1;cases o <;> simp_all [Obj.isCells]
   show Cx (F.w0.putObj l o') p.1 = _;rw [Bv (World.putObj_heap_other this)]; exact h1
 · exact (h.own n x hx).congr hV fun b hb => World.putObj_heap_other (hne b ⟨n, x, hx, hb⟩)
theorem Desc.back {F0 : Fr} (hd : Desc F0 F) (h : RelR F N ρ s a w) (h0 : F0.defs = []) : RelR F0 N ρ s ⟨a.tmps, []⟩ w := by
 have ho : F.out ρ s.h = F0.out ρ s.h := by unfold Fr.out; rw [hd.hid]
 have hb := hd.base;refine ⟨⟨h.fr.os.trans hb.os, h.fr.tape.trans hb.tape, h.fr.output.trans hb.output, Nat.le_trans hb.size h.fr.size, fun b hlt hm => ?_, hb.hid, hb.tab⟩, fun b hbb => hd.may b (h.may b hbb), fun n x hx => by rw [← ho]; exact h.own n x hx, h.inj, fun n => ?_, h.size, h0.symm⟩
 · rw [h.fr.block b (Nat.lt_of_lt_of_le hlt hb.size) fun e => ?_]
   · exact hb.block b hlt hm
   · rcases hd.may b (.inr e) with h1 | h1
     · omega
     · exact hm h1
 · rw [← ho];have := h.tmps n;unfold Fr.val at this ⊢;rw [← hd.x]; exact this
theorem Desc.refl {F0 : Fr} (hR : F0.ok F0.w0) (hm : ∀ b, F0.M0 b → b < F0.w0.heap.size) (h0 : F0.defs = []) : Desc F0 F0 := ⟨hR, hm, fun _ h => h, rfl, rfl, by rw [h0]; trivial⟩
theorem X6 {fn : Func} {rs : List Rv} (h5 : Ak (fn.results.toList.map (Uy P)) = some rs) {F0 : Fr} (h0 : F0.defs = []) {R : Ending → World → Prop} {tm : Array Value} {K : List SV → Prop} (hk : Jx s rs K)
 (hend : ∀ l v w, K l → RelR F0 N ρ s ⟨tm, []⟩ w → Conc (vw F0 w ρ s) ρ (one l) v → R (.returned v) w) :
 ∀ (ds : List Deferred) {F : Fr} {w : World}, Desc F0 { F with defs := [] } → Zc F0 F ds → RelR { F with defs := [] } N ρ s ⟨tm, []⟩ w → LeavesInM (Gd none) 0 P fn tm R ds .returning w
 | [], F, w, hd, _, hR => by
   have hR' := hd.back hR h0;obtain ⟨l, v, k1, k2, k3⟩ := Pj (P := P) hR' h5 hk;exact ⟨v, k3, hend l v w k1 hR' k2⟩
 | d :: ds, F, w, hd, hm, hR => by
   obtain ⟨⟨D, rfl, g1, g2, g3, g4, g5⟩, hm⟩ := hm;have hw : w.heap[D]? = some (.deferred (some [])) := (hR.fr.block D g2 g3).trans g4;refine ⟨by simp, .inl ⟨D, _, rfl, run_takeDeferred hw, ?_⟩⟩;have hR2 := hR.obj (.deferred none) hw rfl g2 g3;refine X6 h5 h0 hk hend ds (F := { F with w0 := F.w0.putObj D (.deferred none) }) ⟨?_, fun b hb => by simpa using hd.m0 b hb, fun b hb => hd.may b (by simpa using hb), hd.hid, hd.x, trivial⟩ ?_ hR2
   · have hb := hd.base;refine ⟨hb.os, hb.tape, hb.output, by simpa using hb.size, fun b hlt hm => ?_, hb.hid, hb.tab⟩;show (F.w0.putObj D (.deferred none)).heap[b]? = _;rw [World.putObj_heap_other (by omega)];exact hb.block b hlt hm
   · clear hR hR2 hw
     induction ds with
     | nil => trivial
     | cons e ds ih =>
       obtain ⟨⟨E, rfl, k1, k2, k3, k4, k5⟩, hm⟩ := hm;have hne : E ≠ D := fun h => g5 _ List.mem_cons_self (by rw [h]);exact ⟨⟨E, rfl, k1, by simpa using k2, k3, by rw [World.putObj_heap_other hne]; exact k4, k5⟩, ih hm (fun e he => g5 e (List.mem_cons_of_mem _ he))⟩
theorem Jm (hm : P.follows .mixedOrders = true) {f N' : Nat} {rs : List Rv} {c : C} (hf : A8 P f = some (N', rs, c)) {F0 : Fr} {s0 : FS} {vs : List Value} (h0 : F0.defs = []) (hok : F0.ok F0.w0) (hm0 : ∀ b, F0.M0 b → b < F0.w0.heap.size)
 (hR : RelR F0 N' ρ s0 { tmps := (⟨vs⟩ : Array Value) ++ Array.replicate (N' - (⟨vs⟩ : Array Value).size) undef, defers := [] } w) {R : SV → FS → Prop} {Q : Bx} (hQ : ∀ e s, Q e s → (e = .normal ∨ e = .ret) ∧ U2 rs R s) (hrun : sx (Yn P F0 N') c Q s0) :
 Calls P f ⟨vs⟩ w fun e w' => ∃ v ρ' s' a' y, e = .returned v ∧ RelR F0 N' ρ' s' a' w' ∧ Conc (vw F0 w' ρ' s') ρ' y v ∧ R y s' := by
 obtain ⟨fn, code, h1, h2, h3, h4, h5, h6⟩ := Qt hf;subst h4;refine callsIn_wide.1 (callsIn_of_wp_marks (F := Gd none) (n := 0) h1 h3 trivial (wpIn_mono (J4 hm h6 hrun ⟨F0, Desc.refl hok hm0 h0, ρ, hR⟩) fun e a' w' he => ?_));have fin : (∃ s, RelX (Desc F0) fn.ntmps s a' w' ∧ U2 rs R s) → LeavesInM (Gd none) 0 P fn a'.tmps (fun e w' => ∃ v ρ' s' a' y, e = .returned v ∧ RelR F0 fn.ntmps ρ' s' a' w' ∧ Conc (vw F0 w' ρ' s') ρ' y v ∧ R y s') a'.defers .returning w' := fun ⟨s1, hX, s', hwk, hr⟩ => by
  obtain ⟨F, hd, ρ', hR'⟩ := hX.wk hwk;rw [hR'.defers];refine X6 h5 h0 hr (fun l v w k1 k2 k3 => ⟨v, ρ', s', _, _, rfl, k2, k3, k1⟩) F.defs (F := F) ⟨hd.base, hd.m0, hd.may, hd.hid, hd.x, trivial⟩ hd.marks ?_;exact ⟨⟨hR'.fr.os, hR'.fr.tape, hR'.fr.output, hR'.fr.size, hR'.fr.block, hR'.fr.hid, hR'.fr.tab⟩, hR'.may, hR'.own, hR'.inj, hR'.tmps, hR'.size, rfl⟩
 cases e with
 | normal => obtain ⟨s, h, hq⟩ := he; exact fin ⟨s, h, (hQ _ _ hq).2⟩
 | ret => obtain ⟨s, h, hq⟩ := he; exact fin ⟨s, h, (hQ _ _ hq).2⟩
 | exit id =>
   obtain ⟨s, h, hq⟩ := he;rcases (hQ _ _ hq).1 with e | e <;> cases e
 | goto _ => exact he.elim
 | panic _ => exact he.elim
 | outgrown => exact he.elim
theorem Wk.same (s : FS) : Wk s s := .weak ⟨fun n => Imp.refl _, fun n b hb => by
 rw [hb];simp only [Aez];cases b with
 | var x => exact ⟨Imp.refl _, rfl⟩
 | row sz es => exact ⟨rfl, rfl⟩
 | rowc sz es c => exact ⟨rfl, rfl, rfl⟩
 | it l p => exact ⟨rfl, rfl⟩⟩
theorem Kb {rs : List Rv} {R : SV → FS → Prop} (e : Ex) (s : FS) (h : Auo rs R e s) : (e = .normal ∨ e = .ret) ∧ U2 rs R s := by
 cases e with
 | normal => exact ⟨.inl rfl, s, .same s, h⟩
 | ret => exact ⟨.inr rfl, s, .same s, h⟩
 | exit _ => exact h.elim
theorem U0 {rs : List Rv} {R : SV → FS → Prop} (e : Ex) (s : FS) (h : Agg rs R e s) : (e = .normal ∨ e = .ret) ∧ U2 rs R s := by
 cases e with
 | normal => exact ⟨.inl rfl, h⟩
 | ret => exact ⟨.inr rfl, h⟩
 | exit _ => exact h.elim
theorem Aa0 (hm : P.follows .mixedOrders = true) {f N' : Nat} {rs : List Rv} {c : C} (hf : A8 P f = some (N', rs, c)) {F0 : Fr} {s0 : FS} {vs : List Value} (h0 : F0.defs = []) (hok : F0.ok F0.w0) (hm0 : ∀ b, F0.M0 b → b < F0.w0.heap.size)
 (hR : RelR F0 N' ρ s0 { tmps := (⟨vs⟩ : Array Value) ++ Array.replicate (N' - (⟨vs⟩ : Array Value).size) undef, defers := [] } w) {R : SV → FS → Prop} (hrun : sx (Yn P F0 N') c (Auo rs R) s0) :
 Calls P f ⟨vs⟩ w fun e w' => ∃ v ρ' s' a' y, e = .returned v ∧ RelR F0 N' ρ' s' a' w' ∧ Conc (vw F0 w' ρ' s') ρ' y v ∧ R y s' := Jm hm hf h0 hok hm0 hR Kb hrun
theorem Afz (hm : P.follows .mixedOrders = true) {f : Nat} {rs : List Rv} {c : C} (hf : A8 P f = some (N, rs, c)) {hid : Nat → Prop} (hhid : ∀ b, hid b → b < w.heap.size) (htw : Alq w) {args : List SV} {vs : List Value} (hlen : args.length ≤ N)
 (hc : ConcL (Ao w hid) ρ args vs) {R : SV → FS → Prop} {Q : Bx} (hQ : ∀ e s, Q e s → (e = .normal ∨ e = .ret) ∧ U2 rs R s) (hrun : sx (Yn P ⟨w, fun _ => False, hid, fun _ => undef, []⟩ N) c Q (mk (Cn 0 args) [])) :
 Calls P f ⟨vs⟩ w fun e w' => ∃ v ρ' s' a' y, e = .returned v ∧ RelR ⟨w, fun _ => False, hid, fun _ => undef, []⟩ N ρ' s' a' w' ∧ Conc (vw ⟨w, fun _ => False, hid, fun _ => undef, []⟩ w' ρ' s') ρ' y v ∧ R y s' := by
 obtain ⟨fn, code, h1, h2, h3, h4, h5, h6⟩ := Qt hf;subst h4;have hN := Nt hf;have hvl : vs.length = args.length := by
  clear hrun hlen
  induction args generalizing vs with
  | nil => simp only [ConcL] at hc; subst hc; rfl
  | cons x l ih =>
    simp only [ConcL] at hc;obtain ⟨v, us, rfl, _, h⟩ := hc;simp [ih h]
 have hR : RelR ⟨w, fun _ => False, hid, fun _ => undef, []⟩ fn.ntmps ρ (mk (Cn 0 args) []) { tmps := (⟨vs⟩ : Array Value) ++ Array.replicate (fn.ntmps - (⟨vs⟩ : Array Value).size) undef, defers := [] } w := by
  have how : ∀ b, ¬ Bd ρ (mk (Cn 0 args) []).h b := fun b ⟨n, x, h, _⟩ => by simp [mk, lk] at h
  have hV : (Ao w hid).le (Ao w ((⟨w, fun _ => False, hid, fun _ => undef, []⟩ : Fr).out ρ (mk (Cn 0 args) []).h)) :=
   A0 fun b c ho hc => ⟨fun hb => hb.elim (how b) ho, hc⟩
  refine ⟨⟨rfl, rfl, rfl, Nat.le_refl _, fun _ _ _ => rfl, fun b hb => ⟨hhid b hb, id⟩, ⟨htw, fun _ _ => id⟩⟩, fun b hb => absurd hb (how b), fun n x hx => by simp [mk, lk] at hx, fun n m x y b hx => by simp [mk, lk] at hx, fun n => ?_, by simp; omega, rfl⟩;have := (Fu 0 n hc).mono hV;simp only [Nat.zero_le, if_true, Nat.sub_zero] at this;simp only [mk];have he : ((⟨vs⟩ : Array Value) ++ Array.replicate (fn.ntmps - (⟨vs⟩ : Array Value).size) undef).getD n undef = (vs[n]?).getD undef := by
   rw [Array.getD_eq_getD_getElem?];by_cases hn : n < vs.length
   · rw [Array.getElem?_append_left (by simpa using hn)]; simp
   · rw [Array.getElem?_append_right (by simpa using hn)];rw [List.getElem?_eq_none (by omega)];simp only [Array.getElem?_replicate, Option.getD_none];split <;> rfl
  unfold Fr.val;by_cases hb : n < Ft
  · rw [if_pos hb, he]; exact this
  · rw [if_neg hb];rw [List.getElem?_eq_none (by omega)] at this; exact this
 exact Jm hm hf rfl (by exact ⟨rfl, rfl, rfl, Nat.le_refl _, fun _ _ _ => rfl, fun b hb => ⟨hhid b hb, id⟩, ⟨htw, fun _ _ => id⟩⟩) (fun b (h : False) => h.elim) hR hQ hrun
end Go.Proofs.Ytagpocgklmeoiaa.Fw
namespace Go.Proofs.Ytagpocgklmeoiaa.Fw
open Go.RowKit
variable {P : Program} {F : Fr} {N : Nat} {ρ ρ' : Nat → Value} {s : FS} {a : Act} {w w' : World} {V V' : View}
mutual
def SV.closed : SV → Bool
 | .pv _ => true
 | .vec _ _ => true
 | .agg l => SV.closedL l
 | .tup l => SV.closedL l
 | .pi _ _ _ _ => true
 | .fn _ l => SV.closedL l
 | .dead => true
 | _ => false
def SV.closedL : List SV → Bool
 | [] => true
 | x :: l => x.closed && SV.closedL l
end
mutual
theorem Bz (hV : V.le V') : ∀ {x : SV} {v : Value}, x.closed = true → Conc V ρ x v → Conc V' ρ' x v
 | .pv x, v, _, h => by simp only [Conc] at *; exact h.mono hV
 | .vec n cs, v, _, h => by simp only [Conc] at *; obtain ⟨vs, a, b, c⟩ := h; exact ⟨vs, a, b, c.mono hV⟩
 | .agg l, v, hc, h => by simp only [Conc, SV.closed] at *; obtain ⟨vs, a, b⟩ := h; exact ⟨vs, a, Gr hV hc b⟩
 | .tup l, v, hc, h => by simp only [Conc, SV.closed] at *; obtain ⟨vs, a, b⟩ := h; exact ⟨vs, a, Gq hV hc b⟩
 | .pi sz es i off, v, _, h => by
   have := Conc.mono (ρ := ρ) hV h;simp only [Conc] at *; exact this
 | .fn f l, v, hc, h => by simp only [Conc, SV.closed] at *; obtain ⟨vs, a, b⟩ := h; exact ⟨vs, a, Gq hV hc b⟩
 | .dead, v, _, h => by simp only [Conc]
 | .p _ _, v, hc, h => by simp [SV.closed] at hc
 | .ps _ _, v, hc, h => by simp [SV.closed] at hc
 | .pr _ _ _ _, v, hc, h => by simp [SV.closed] at hc
 | .os _, v, hc, h => by simp [SV.closed] at hc
 | .ov _ _ _ _, v, hc, h => by simp [SV.closed] at hc
theorem Gq (hV : V.le V') : ∀ {l : List SV} {vs : List Value}, SV.closedL l = true → ConcL V ρ l vs → ConcL V' ρ' l vs
 | [], vs, _, h => by simp only [ConcL] at *; exact h
 | x :: l, vs, hc, h => by
   simp only [ConcL, SV.closedL, Bool.and_eq_true] at *;obtain ⟨u, us, a, b, c⟩ := h;exact ⟨u, us, a, Bz hV hc.1 b, Gq hV hc.2 c⟩
theorem Gr (hV : V.le V') : ∀ {l : List SV} {vs : List Value}, SV.closedL l = true → Cells V ρ l vs → Cells V' ρ' l vs
 | [], vs, _, h => by simp only [Cells] at *; exact h
 | x :: l, vs, hc, h => by
   simp only [Cells, SV.closedL, Bool.and_eq_true] at *;obtain ⟨u, us, a, b, c, d, e⟩ := h;exact ⟨u, us, a, Bz hV hc.1 b, c, d, Gr hV hc.2 e⟩
end
def PV.flat : PV → Bool
 | .sl _ _ es => es.isEmpty
 | _ => true
mutual
def SV.scalar : SV → Bool
 | .pv x => x.flat
 | .vec _ cs => cs.all PV.flat
 | .agg l => SV.scalarL l
 | .tup l => SV.scalarL l
 | _ => false
def SV.scalarL : List SV → Bool
 | [] => true
 | x :: l => x.scalar && SV.scalarL l
end
theorem Ua {x : PV} {v : Value} (hf : x.flat = true) (h : PConc V x v) : PConc V' x v := by
 cases h with
 | i k n => exact .i k n
 | b x => exact .b x
 | s l => exact .s l
 | v _ h => exact .v _ h
 | sl full sz es a cap cs bl off arr hcap hfull hsz ha hcs hel =>
   have he : es = [] := by cases es <;> simp_all [PV.flat]
   subst he;exact .sl full sz [] a cap cs bl off arr hcap hfull hsz (fun h => absurd rfl h) hcs (fun i j c x h => by simp at h)
theorem Fp {cs : List PV} {vs : List Value} (hf : cs.all PV.flat = true) (h : PCells V cs vs) : PCells V' cs vs :=
 ⟨h.1, fun j x hx => by
  obtain ⟨v, h1, h2⟩ := h.2 j x hx;exact ⟨v, h1, Ua (List.all_eq_true.1 hf x (List.mem_of_getElem? hx)) h2⟩⟩
mutual
theorem Cy : ∀ {x : SV} {v : Value}, x.scalar = true → Conc V ρ x v → Conc V' ρ' x v
 | .pv x, v, hc, h => by
   simp only [Conc, SV.scalar] at hc h ⊢;exact Ua hc h
 | .vec n cs, v, hc, h => by
   simp only [Conc, SV.scalar] at hc h ⊢;obtain ⟨vs, a, b, c⟩ := h;exact ⟨vs, a, b, Fp hc c⟩
 | .agg l, v, hc, h => by simp only [Conc, SV.scalar] at *; obtain ⟨vs, a, b⟩ := h; exact ⟨vs, a, M2 hc b⟩
 | .tup l, v, hc, h => by simp only [Conc, SV.scalar] at *; obtain ⟨vs, a, b⟩ := h; exact ⟨vs, a, M1 hc b⟩
 | .pi _ _ _ _, v, hc, h => by simp [SV.scalar] at hc
 | .fn _ _, v, hc, h => by simp [SV.scalar] at hc
 | .dead, v, hc, h => by simp [SV.scalar] at hc
 | .p _ _, v, hc, h => by simp [SV.scalar] at hc
 | .ps _ _, v, hc, h => by simp [SV.scalar] at hc
 | .pr _ _ _ _, v, hc, h => by simp [SV.scalar] at hc
 | .os _, v, hc, h => by simp [SV.scalar] at hc
 | .ov _ _ _ _, v, hc, h => by simp [SV.scalar] at hc
theorem M1 : ∀ {l : List SV} {vs : List Value}, SV.scalarL l = true → ConcL V ρ l vs → ConcL V' ρ' l vs
 | [], vs, _, h => by simp only [ConcL] at *; exact h
 | x :: l, vs, hc, h => by
   simp only [ConcL, SV.scalarL, Bool.and_eq_true] at *;obtain ⟨u, us, a, b, c⟩ := h;exact ⟨u, us, a, Cy hc.1 b, M1 hc.2 c⟩
theorem M2 : ∀ {l : List SV} {vs : List Value}, SV.scalarL l = true → Cells V ρ l vs → Cells V' ρ' l vs
 | [], vs, _, h => by simp only [Cells] at *; exact h
 | x :: l, vs, hc, h => by
   simp only [Cells, SV.scalarL, Bool.and_eq_true] at *;obtain ⟨u, us, a, b, c, d, e⟩ := h;exact ⟨u, us, a, Cy hc.1 b, c, d, M2 hc.2 e⟩
end
def Ait (x : SV) (off : Nat) : Option (List PV) → SV
 | some cs => .pi x.width [cs] 0 off
 | none => .dead
mutual
def G4 (h : Nat → Option Blk) : SV → SV
 | .os n => match h n with
   | some (.row sz es) => .pv (.sl false sz es)
   | _ => .dead
 | .p n off => match h n with
   | some (.var x) => Ait x off x.cells?
   | _ => .dead
 | .fn f l => .fn f (Dg h l)
 | x => x
def Dg (h : Nat → Option Blk) : List SV → List SV
 | [] => []
 | x :: l => G4 h x :: Dg h l
end
mutual
def Ju : SV → Bool
 | .os _ => true
 | .p _ _ => true
 | .fn _ l => Bh l
 | x => x.closed
def Bh : List SV → Bool
 | [] => true
 | x :: l => Ju x && Bh l
end
mutual
def Lt : SV → List Nat
 | .os n => [n]
 | .p n _ => [n]
 | .fn _ l => Br l
 | _ => []
def Br : List SV → List Nat
 | [] => []
 | x :: l => Lt x ++ Br l
end
def Ay (s : FS) (ns : List Nat) : FS := ⟨s.t, fun n => if n ∈ ns then none else s.h n⟩
theorem T3 (h : Nat → Option Blk) : ∀ l : List SV, (Dg h l).length = l.length
 | [] => by simp only [Dg]
 | x :: l => by simp only [Dg, List.length_cons, T3 h l]
theorem Ir (s : FS) (ns : List Nat) : Weak s (Ay s ns) := ⟨fun n => .refl _, fun n b' hb => by
 simp only [Ay] at hb;split at hb
 · cases hb
 · rw [hb]; simp only [Aez];cases b' with
   | var x => exact ⟨.refl _, rfl⟩
   | row sz es => exact ⟨rfl, rfl⟩
   | rowc sz es c => exact ⟨rfl, rfl, rfl⟩
   | it l p => exact ⟨rfl, rfl⟩⟩
theorem Ed (F : Fr) (w : World) (ρ : Nat → Value) (s : FS) (ns : List Nat) : (vw F w ρ s).le (vw F w ρ (Ay s ns)) := A0 fun b c ho hc => ⟨fun hb => ho (hb.imp_left fun ⟨n, x, h1, h2⟩ => by
 simp only [Ay] at h1;split at h1
 · cases h1
 · exact ⟨n, x, h1, h2⟩), hc⟩
mutual
theorem Aeo (hR : RelR F N ρ s a w) {h : Nat → Option Blk} {ns : List Nat} : ∀ {x : SV} {v : Value}, Ju x = true → (∀ n ∈ tn x, s.h n = h n) → (∀ n ∈ Lt x, n ∈ ns) →
 Conc (vw F w ρ s) ρ x v → Conc (vw F w ρ (Ay s ns)) ρ (G4 h x) v
 | .os n, v, hl, hh, hn, h1 => by
   simp only [G4];have hhn := hh n (by simp [tn]);have hns := hn n (by simp [Lt]);split
   · rename_i sz es hrow;rw [← hhn] at hrow;simp only [Conc] at h1 ⊢;rw [h1.1];have := L6 hR hrow;refine this.mono (A0 fun b c ho hc => ⟨fun hb => ho (hb.imp_left fun ⟨m, x, g1, g2⟩ => ?_), hc⟩);simp only [Ay] at g1;split at g1
     · cases g1
     · rename_i hm;refine ⟨m, x, ?_, g2⟩;simp only [FS.seth];rw [if_neg fun e => hm (by rw [e]; exact hns)];exact g1
   · simp only [Conc]
 | .p n off, v, hl, hh, hn, h1 => by
   simp only [G4];have hhn := hh n (by simp [tn]);have hns := hn n (by simp [Lt]);split
   · rename_i x hvar;rw [← hhn] at hvar;cases hcs : x.cells? with
     | none => simp only [Ait, Conc]
     | some cs =>
       simp only [Conc] at h1;obtain ⟨b, hb, rfl⟩ := h1;obtain ⟨b', vs, ty, fr, u, k1, k2, k3, k4, k5, k6, k7⟩ := hR.own n _ hvar;rw [k1] at hb;simp only [Value.pointer.injEq, Option.some.injEq, Addr.mk.injEq, and_true] at hb;subst hb;have hp := Conc.cells k4 hcs;simp only [Ait, Conc];refine ⟨b', 0, ⟨vs⟩, by simp, ?_, fun c hc => ?_⟩
       · unfold vw Ao;rw [if_neg]
         · unfold Cx; rw [k2]
         · rintro (⟨m, y, g1, g2⟩ | g)
           · simp only [Ay] at g1;split at g1
             · cases g1
             · rename_i hm;exact hm ((hR.inj m n y _ b' g1 hvar g2 (by rw [k1]; rfl)) ▸ hns)
           · exact hR.shown ⟨n, _, hvar, by rw [k1]; rfl⟩ g
       · simp only [List.getElem?_cons_zero, Option.some.injEq] at hc;subst hc;have hl : cs.length = x.width := by rw [hp.1, ← k5]; exact k6
         refine ⟨hl, ?_⟩;have e : (vs.drop (0 + 0 * x.width)).take x.width = vs := by simp [k6 ▸ List.take_length]
         rw [e, k5];exact hp.mono (Ed F w ρ s ns)
   · simp only [Conc]
 | .fn f l, v, hl, hh, hn, h1 => by
   simp only [G4, Conc] at *;obtain ⟨vs, rfl, h2⟩ := h1;exact ⟨vs, rfl, Me hR (by simpa [Ju] using hl) (fun n hm => hh n (by simp only [tn]; exact hm)) (fun n hm => hn n (by simpa [Lt] using hm)) h2⟩
 | .pv x, v, hl, _, _, h1 => Bz (Ed F w ρ s ns) rfl h1
 | .vec n cs, v, hl, _, _, h1 => Bz (Ed F w ρ s ns) rfl h1
 | .agg l, v, hl, _, _, h1 => by
   have e : G4 h (.agg l) = .agg l := by simp only [G4]
   rw [e];exact Bz (Ed F w ρ s ns) (by simpa only [Ju] using hl) h1
 | .tup l, v, hl, _, _, h1 => by
   have e : G4 h (.tup l) = .tup l := by simp only [G4]
   rw [e];exact Bz (Ed F w ρ s ns) (by simpa only [Ju] using hl) h1
 | .pi _ _ _ _, v, hl, _, _, h1 => Bz (Ed F w ρ s ns) rfl h1
 | .dead, v, hl, _, _, h1 => Bz (Ed F w ρ s ns) rfl h1
 | .ps _ _, v, hl, _, _, h1 => by simp [Ju, SV.closed] at hl
 | .pr _ _ _ _, v, hl, _, _, h1 => by simp [Ju, SV.closed] at hl
 | .ov _ _ _ _, v, hl, _, _, h1 => by simp [Ju, SV.closed] at hl
theorem Me (hR : RelR F N ρ s a w) {h : Nat → Option Blk} {ns : List Nat} : ∀ {args : List SV} {vs : List Value}, Bh args = true → (∀ n ∈ A2 args, s.h n = h n) → (∀ n ∈ Br args, n ∈ ns) →
 ConcL (vw F w ρ s) ρ args vs → ConcL (vw F w ρ (Ay s ns)) ρ (Dg h args) vs
 | [], vs, _, _, _, hc => by simp only [ConcL, Dg] at *; exact hc
 | x :: l, vs, hl, hh, hn, hc => by
   simp only [ConcL, Dg, Bh, Bool.and_eq_true, Br, List.mem_append] at *;obtain ⟨u, us, rfl, h1, h2⟩ := hc;exact ⟨u, us, rfl, Aeo hR hl.1 (fun n hm => hh n (by simp only [A2, List.mem_append]; exact .inl hm)) (fun n hm => hn n (.inl hm)) h1, Me hR hl.2 (fun n hm => hh n (by simp only [A2, List.mem_append]; exact .inr hm)) (fun n hm => hn n (.inr hm)) h2⟩
end
structure After (F : Fr) (N : Nat) (ρ : Nat → Value) (s : FS) (ns : List Nat) (a : Act) (w : World) (R : SV → FS → Prop) (v : Value) (w' : World) : Prop where
 grew : Grew w w'
 out : ∃ (N' : Nat) (ρ' : Nat → Value) (s' : FS) (a' : Act) (y : SV), RelR ⟨w, fun _ => False, F.out ρ (Ay s ns).h, fun _ => undef, []⟩ N' ρ' s' a' w' ∧ Conc (vw ⟨w, fun _ => False, F.out ρ (Ay s ns).h, fun _ => undef, []⟩ w' ρ' s') ρ' y v ∧ R y s'
theorem Df (hm : P.follows .mixedOrders = true) {f N' : Nat} {rs : List Rv} {c : C} (hf : A8 P f = some (N', rs, c)) {args : List SV} {h : Nat → Option Blk} (hlen : args.length ≤ N') (hl : Bh args = true)
 {R : SV → FS → Prop} {Q : Bx} (hQ : ∀ e s, Q e s → (e = .normal ∨ e = .ret) ∧ U2 rs R s) (hrun : ∀ F, sx (Yn P F N') c Q (mk (Cn 0 (Dg h args)) []))
 (hR : RelR F N ρ s a w) (hh : ∀ n ∈ A2 args, s.h n = h n) {vs : List Value} (hc : ConcL (vw F w ρ s) ρ args vs) :
 Calls P f ⟨vs⟩ w fun e w' => ∃ v, e = .returned v ∧ After F N ρ s (Br args) a w R v w' := by
 have hRb := hR.weak (Ir s (Br args));have hcb := Me hR (ns := Br args) hl hh (fun _ h => h) hc;refine Calls.mono (Afz hm hf (hid := F.out ρ (Ay s (Br args)).h) (fun b hb => ?_) hR.tabW (by rw [T3]; exact hlen) hcb hQ (hrun _)) fun e w' he => ?_
 · rcases hb with hb | hb
   · exact hRb.lt hb
   · exact Nat.lt_of_lt_of_le (hR.fr.hid b hb).1 hR.fr.size
 · obtain ⟨v, ρ', s', a', y, rfl, h1, h2, h3⟩ := he;exact ⟨v, rfl, ⟨h1.fr.os, h1.fr.tape, h1.fr.output, h1.fr.size, fun b hb => h1.fr.block b hb id⟩, N', ρ', s', a', y, h1, h2, h3⟩
theorem S7 {N' : Nat} {ρ' : Nat → Value} {s' : FS} {a' : Act} (hR' : RelR ⟨w, fun _ => False, F.out ρ s.h, fun _ => undef, []⟩ N' ρ' s' a' w') : (vw ⟨w, fun _ => False, F.out ρ s.h, fun _ => undef, []⟩ w' ρ' s').le (vw F w' ρ s) :=
 A0 fun b c ho hc => ⟨fun hb => ho (.inr hb), hc⟩
mutual
theorem Aep : ∀ {x : SV}, x.closed = true → Lt x = [] ∧ Ju x = true ∧ ∀ h, G4 h x = x
 | .fn f l, hc => by
   simp only [SV.closed] at hc;obtain ⟨h1, h2, h3⟩ := Cf hc;exact ⟨by simp only [Lt]; exact h1, by simp only [Ju]; exact h2, fun h => by simp only [G4, h3 h]⟩
 | .pv _, hc => ⟨rfl, rfl, fun h => by simp only [G4]⟩
 | .vec _ _, hc => ⟨rfl, rfl, fun h => by simp only [G4]⟩
 | .agg _, hc => ⟨rfl, by simp only [Ju]; exact hc, fun h => by simp only [G4]⟩
 | .tup _, hc => ⟨rfl, by simp only [Ju]; exact hc, fun h => by simp only [G4]⟩
 | .pi _ _ _ _, hc => ⟨rfl, rfl, fun h => by simp only [G4]⟩
 | .dead, hc => ⟨rfl, rfl, fun h => by simp only [G4]⟩
 | .p _ _, hc => by simp [SV.closed] at hc
 | .ps _ _, hc => by simp [SV.closed] at hc
 | .pr _ _ _ _, hc => by simp [SV.closed] at hc
 | .os _, hc => by simp [SV.closed] at hc
 | .ov _ _ _ _, hc => by simp [SV.closed] at hc
theorem Cf : ∀ {args : List SV}, SV.closedL args = true → Br args = [] ∧ Bh args = true ∧ ∀ h, Dg h args = args
 | [], _ => ⟨by simp only [Br], by simp only [Bh], fun _ => by simp only [Dg]⟩
 | x :: l, hc => by
   simp only [SV.closedL, Bool.and_eq_true] at hc;obtain ⟨g1, g2, g3⟩ := Aep hc.1;obtain ⟨h1, h2, h3⟩ := Cf hc.2;exact ⟨by simp only [Br, g1, h1]; rfl, by simp only [Bh, g2, h2]; rfl, fun h => by simp only [Dg, g3 h, h3 h]⟩
end
theorem Dl (s : FS) : Ay s [] = s := by simp [Ay]
theorem Cb {f : Nat} {rs : List Rv} {c : C} (hf : A8 P f = some (N, rs, c)) : N6 P f := by
 obtain ⟨fn, code, h1, h2, h3, _⟩ := Qt hf;exact ⟨fn, h1, h2, by rw [h3]; rfl⟩
theorem Aw (hm : P.follows .mixedOrders = true) {f N' : Nat} {rs : List Rv} {c : C} (hf : A8 P f = some (N', rs, c)) {args : List SV} {h : Nat → Option Blk} {d : Nat} {x : SV} (hlen : args.length ≤ N')
 (hargs : SV.closedL args = true) (hx : x.closed = true) (hrun : ∀ F, sx (Yn P F N') c (Tj rs fun y _ => y = x) (mk (Cn 0 args) [])) : FunOk P f args h d x [] := by
 obtain ⟨h1, h2, h3⟩ := Cf hargs;refine ⟨Cb hf, fun F N ρ s a w hR hh vs hc => ?_⟩;refine Calls.mono (Df hm hf (h := h) hlen h2 Kb (by rw [h3]; exact hrun) hR hh hc) fun e w' he => ?_;obtain ⟨v, rfl, hg, N'', ρ', s', a', y, hR', hy, rfl⟩ := he;rw [h1, Dl] at hR' hy;exact ⟨v, ρ, rfl, hR.grew hg, Bz (S7 hR') hx hy⟩
theorem Li (hm : P.follows .mixedOrders = true) {f N' : Nat} {rs : List Rv} {c : C} (hf : A8 P f = some (N', rs, c)) {args : List SV} {h : Nat → Option Blk} {d : Nat} {x : SV} (hlen : args.length ≤ N')
 (hargs : SV.closedL args = true) (hx : x.closed = true) (hrun : ∀ F, sx (Yn P F N') c (Agg rs fun y _ => y = x) (mk (Cn 0 args) [])) : FunOk P f args h d x [] := by
 obtain ⟨h1, h2, h3⟩ := Cf hargs;refine ⟨Cb hf, fun F N ρ s a w hR hh vs hc => ?_⟩;refine Calls.mono (Df hm hf (h := h) hlen h2 U0 (by rw [h3]; exact hrun) hR hh hc) fun e w' he => ?_;obtain ⟨v, rfl, hg, N'', ρ', s', a', y, hR', hy, rfl⟩ := he;rw [h1, Dl] at hR' hy;exact ⟨v, ρ, rfl, hR.grew hg, Bz (S7 hR') hx hy⟩
theorem Fo (hm : P.follows .mixedOrders = true) {f N' : Nat} {rs : List Rv} {c : C} (hf : A8 P f = some (N', rs, c)) {args : List SV} {h : Nat → Option Blk} {d : Nat} {x : SV} (hlen : args.length ≤ N')
 (hargs : Bh args = true) (hx : x.scalar = true) (hrun : ∀ F, sx (Yn P F N') c (Tj rs fun y _ => y = x) (mk (Cn 0 (Dg h args)) [])) : FunOk P f args h d x [] := by
 refine ⟨Cb hf, fun F N ρ s a w hR hh vs hc => ?_⟩;refine Calls.mono (Df hm hf (h := h) hlen hargs Kb hrun hR hh hc) fun e w' he => ?_;obtain ⟨v, rfl, hg, N'', ρ', s', a', y, hR', hy, rfl⟩ := he;exact ⟨v, ρ, rfl, hR.grew hg, Cy hx hy⟩
theorem Nq (hm : P.follows .mixedOrders = true) {f N' : Nat} {rs : List Rv} {c : C} (hf : A8 P f = some (N', rs, c)) {args : List SV} {h : Nat → Option Blk} {d : Nat} {sz : Nat} {es : List (List PV)} (hlen : args.length ≤ N')
 (hargs : Bh args = true) (hx : SV.closedL args = true ∨ ∀ c ∈ es, c.all PV.flat = true) (hrun : ∀ F, sx (Yn P F N') c (Tj rs fun y g => ∃ n, y = .os n ∧ g n = some (.row sz es)) (mk (Cn 0 (Dg h args)) [])) :
 FunOk P f args h d (.os d) [.new d (.row sz es)] := by
 refine ⟨Cb hf, fun F N ρ s a w hR hh vs hc => ?_⟩;refine Calls.mono (Df hm hf (h := h) hlen hargs Kb hrun hR hh hc) fun e w' he => ?_;obtain ⟨v, rfl, hg, N'', ρ', s', a', y, hR', hy, n, rfl, hn⟩ := he;simp only [Conc] at hy;obtain ⟨base, cap, g1, g2, g3, g4, g5⟩ := hR'.own n _ hn;have hown : ∀ b, Bl (ρ' n) = some b → w.heap.size ≤ b ∧ b < w'.heap.size := fun b hb => by
  have ho : Bd ρ' s'.h b := ⟨n, _, hn, hb⟩
  exact ⟨(hR'.may b ho).resolve_right id, hR'.lt ho⟩
 have hnew := hR.adopt hg d (.row sz es) (ρ' n) hown fun hV => by
  refine ⟨base, cap, by rw [Al]; exact g1, g2, g3, g4, fun hcap => ?_⟩;obtain ⟨b, vs', ty, fr, k1, k2, k3, k4, k5, k6⟩ := g5 hcap;refine ⟨b, vs', ty, fr, k1, k2, k3, k4, k5, fun i c hi => ?_⟩;rcases hx with hx | hx
  · obtain ⟨e1, _, _⟩ := Cf hx;rw [e1, Dl] at hR' k6;refine (k6 i c hi).mono (A0 fun b' c' ho hc' => ⟨fun hb' => ?_, hc'⟩);rcases hb' with ⟨m, z, hm1, hm2⟩ | hb'
    · by_cases hmd : m = d
      · subst hmd;rw [Al] at hm2;exact ho (.inl ⟨n, _, hn, hm2⟩)
      · rw [A3 hmd] at hm2;simp only [FS.seth, FS.kill, hmd, if_false] at hm1;obtain ⟨z', hz', _⟩ := Option.map_eq_some_iff.1 hm1;exact ho (.inr (.inl ⟨m, z', hz', hm2⟩))
    · exact ho (.inr (.inr hb'))
  · exact Fp (hx c (List.mem_of_getElem? hi)) (k6 i c hi)
 refine ⟨v, _, rfl, hnew.1, ?_⟩;simp only [Conc];exact ⟨by rw [Al]; exact hy.1, hy.2⟩
theorem Si (hm : P.follows .mixedOrders = true) {f N' : Nat} {rs : List Rv} {c : C} (hf : A8 P f = some (N', rs, c)) {args : List SV} {h : Nat → Option Blk} {d : Nat} {z : SV} {sz : Nat} {es : List (List PV)} (hlen : args.length ≤ N')
 (hargs : Bh args = true) (hx : SV.closedL args = true ∨ ∀ c ∈ es, c.all PV.flat = true) (hzs : z.scalar = true) (hrun : ∀ F, sx (Yn P F N') c (Tj rs fun y g => ∃ n, y = .tup [.os n, z] ∧ g n = some (.row sz es)) (mk (Cn 0 (Dg h args)) [])) :
 FunOk P f args h d (.tup [.os d, z]) [.new d (.row sz es)] := by
 refine ⟨Cb hf, fun F N ρ s a w hR hh vs hc => ?_⟩;refine Calls.mono (Df hm hf (h := h) hlen hargs Kb hrun hR hh hc) fun e w' he => ?_;obtain ⟨v, rfl, hg, N'', ρ', s', a', y, hR', hy, n, rfl, hn⟩ := he;simp only [Conc, ConcL] at hy;obtain ⟨tv, rfl, u1, us1, rfl, hy, u2, us2, rfl, hz2, rfl⟩ := hy;obtain ⟨base, cap, g1, g2, g3, g4, g5⟩ := hR'.own n _ hn;have hown : ∀ b, Bl (ρ' n) = some b → w.heap.size ≤ b ∧ b < w'.heap.size := fun b hb => by
  have ho : Bd ρ' s'.h b := ⟨n, _, hn, hb⟩
  exact ⟨(hR'.may b ho).resolve_right id, hR'.lt ho⟩
 have hnew := hR.adopt hg d (.row sz es) (ρ' n) hown fun hV => by
  refine ⟨base, cap, by rw [Al]; exact g1, g2, g3, g4, fun hcap => ?_⟩;obtain ⟨b, vs', ty, fr, k1, k2, k3, k4, k5, k6⟩ := g5 hcap;refine ⟨b, vs', ty, fr, k1, k2, k3, k4, k5, fun i c hi => ?_⟩;rcases hx with hx | hx
  · obtain ⟨e1, _, _⟩ := Cf hx;rw [e1, Dl] at hR' k6;refine (k6 i c hi).mono (A0 fun b' c' ho hc' => ⟨fun hb' => ?_, hc'⟩);rcases hb' with ⟨m, z, hm1, hm2⟩ | hb'
    · by_cases hmd : m = d
      · subst hmd;rw [Al] at hm2;exact ho (.inl ⟨n, _, hn, hm2⟩)
      · rw [A3 hmd] at hm2;simp only [FS.seth, FS.kill, hmd, if_false] at hm1;obtain ⟨z', hz', _⟩ := Option.map_eq_some_iff.1 hm1;exact ho (.inr (.inl ⟨m, z', hz', hm2⟩))
    · exact ho (.inr (.inr hb'))
  · exact Fp (hx c (List.mem_of_getElem? hi)) (k6 i c hi)
 refine ⟨_, _, rfl, hnew.1, ?_⟩;simp only [Conc, ConcL];exact ⟨_, rfl, u1, _, rfl, ⟨by rw [Al]; exact hy.1, hy.2⟩, u2, _, rfl, Cy hzs hz2, rfl⟩
end Go.Proofs.Ytagpocgklmeoiaa.Fw
namespace Go.Proofs.Ytagpocgklmeoiaa.Fw
open Go.RowKit
theorem Ani {α : Type} (I : α → FS) (J : α → Prop) (m : α → Nat) (x : α) (Q : Bx) (s) : Acd I J m x Q .normal s = ∃ y, J y ∧ m y < m x ∧ Wk s (I y) := (rfl)
theorem Anj {α : Type} (I : α → FS) (J : α → Prop) (m : α → Nat) (x : α) (Q : Bx) (s i) : Acd I J m x Q (.exit i) s = Q (.exit i) s := (rfl)
theorem Anh {α : Type} (I : α → FS) (J : α → Prop) (m : α → Nat) (x : α) (Q : Bx) (s) : Acd I J m x Q .ret s = Q .ret s := (rfl)
theorem Ark (rs R s) : Tj rs R .ret s = Jx s rs fun l => R (one l) s.h := (rfl)
theorem Ahl (s K) : Jx s [] K = K [] := (rfl)
theorem Arl (s n rs K) : Jx s (.t n :: rs) K = Jx s rs fun l => K (s.t n :: l) := (rfl)
def Ab2 (s : FS) (rs : List Rv) (K : List SV → Prop) : KK := fun x u => u = [] ∧ Jx s rs fun l => K (x :: l)
theorem Arm (s a size ag rs K) : Jx s (.c a size ag :: rs) K = Gi s.h size ag (s.t a) (Ab2 s rs K) := (rfl)
theorem Z1 (s rs K x u) : Ab2 s rs K x u = (u = [] ∧ Jx s rs fun l => K (x :: l)) := (rfl)
theorem Av1 (x) : one [x] = x := (rfl)
theorem Av0 (x y l) : one (x :: y :: l) = .tup (x :: y :: l) := (rfl)
theorem Ak4 (k) : Cn k [] = [] := (rfl)
theorem Af5 (k x l) : Cn k (x :: l) = (k, x) :: Cn (k + 1) l := (rfl)
theorem Aen (h) : Dg h [] = [] := (rfl)
theorem Aae (h x l) : Dg h (x :: l) = G4 h x :: Dg h l := (rfl)
theorem Ano (h x) : G4 h (.pv x) = .pv x := (rfl)
theorem Ais (h n x) : G4 h (.vec n x) = .vec n x := (rfl)
theorem Ai8 (s) : Ya s [] = True := (rfl)
theorem Aev (s n x l) : Ya s ((n, x) :: l) = (Imp (s.t n) x ∧ Ya s l) := (rfl)
theorem Ai9 (s) : P4 s [] = True := (rfl)
theorem Aex (s n l) : P4 s ((n, none) :: l) = P4 s l := (rfl)
theorem Aew (s n b l) : P4 s ((n, some b) :: l) = (Aez (s.h n) b ∧ P4 s l) := (rfl)
theorem Aey (x y) : Aez (some x) y = Agh x y := (rfl)
theorem Ajb (a b c d) : Agh (.row a b) (.row c d) = (a = c ∧ b = d) := (rfl)
theorem Aja (x y) : Agh (.var x) (.var y) = (Imp x y ∧ x.width = y.width) := (rfl)
theorem Ai6 (x) : Imp x x = True := eq_true (Imp.refl x)
theorem Anf (n m : Nat) (l : List Nat) : (n ∈ m :: l) = (n = m ∨ n ∈ l) := propext List.mem_cons
theorem Aa2 (l : List UInt8) (k : Nat) (h : k < l.length) : (Ac l)[k]? = some [.i .u8 (l[k]).toNat] := by
 simp [Ac, h]
theorem Aq (l : List UInt8) : (Ac l).length = l.length := by simp [Ac]
theorem Qa {n : Int} (h : 0 ≤ n ∧ n < 256) : IntKind.u8.wrap n = n := by
 simp [IntKind.wrap, IntKind.signed, IntKind.bits]; omega
theorem Q1 {n : Int} (h : 0 ≤ n ∧ n < 4294967296) : IntKind.u32.wrap n = n := by
 simp [IntKind.wrap, IntKind.signed, IntKind.bits]; omega
theorem Jz {n : Int} (h : 0 ≤ n ∧ n < 18446744073709551616) : IntKind.u64.wrap n = n := by
 simp [IntKind.wrap, IntKind.signed, IntKind.bits]; omega
theorem C4 {n : Int} (h : -9223372036854775808 ≤ n ∧ n < 9223372036854775808) : IntKind.i64.wrap n = n := by
 simp [IntKind.wrap, IntKind.signed, IntKind.bits]; omega
mutual
theorem Yq (n : Nat) : ∀ {x : SV}, x.closed = true → x.kill n = x
 | .pv _, _ => by simp only [SV.kill]
 | .vec _ _, _ => by simp only [SV.kill]
 | .agg l, h => by simp only [SV.closed] at h; simp only [SV.kill, Fb n h]
 | .tup l, h => by simp only [SV.closed] at h; simp only [SV.kill, Fb n h]
 | .pi _ _ _ _, _ => by simp only [SV.kill]
 | .fn f l, h => by simp only [SV.closed] at h; simp only [SV.kill, Fb n h]
 | .dead, _ => by simp only [SV.kill]
 | .p _ _, h => by simp [SV.closed] at h
 | .ps _ _, h => by simp [SV.closed] at h
 | .pr _ _ _ _, h => by simp [SV.closed] at h
 | .os _, h => by simp [SV.closed] at h
 | .ov _ _ _ _, h => by simp [SV.closed] at h
theorem Fb (n : Nat) : ∀ {l : List SV}, SV.closedL l = true → SV.killL n l = l
 | [], _ => by simp only [SV.killL]
 | x :: l, h => by
   simp only [SV.closedL, Bool.and_eq_true] at h;simp only [SV.killL, Yq n h.1, Fb n h.2]
end
theorem Aa {P : Program} {E : Env} {f : Nat} {args : List SV} {h : Nat → Option Blk} {d : Nat} {x : SV} {u : List HU} {K : KK} (hf : FunOk P f args h d x u) (hk : K x u) (hE : E.call = Abm P := by rfl) : N0 E f args h d K := ⟨x, u, .inl (hE ▸ .inl hf), hk⟩
theorem Akn {P : Program} {E : Env} {f : Nat} {args : List SV} {h : Nat → Option Blk} {d : Nat} {x : SV} {K : KK} (hf : Als P f args h x) (hk : K x []) (hE : E.call = Abm P := by rfl) : N0 E f args h d K := ⟨x, [], .inl (hE ▸ .inr ⟨rfl, hf⟩), hk⟩
theorem Amx (w : World) (ht : Alq w) : RelR ⟨w, fun _ => False, fun _ => False, fun _ => undef, []⟩ 0 (fun _ => undef) ⟨fun _ => .dead, fun _ => none⟩ ⟨#[], []⟩ w :=
 ⟨⟨rfl, rfl, rfl, Nat.le_refl _, fun _ _ _ => rfl, fun _ h => h.elim, ⟨ht, fun _ _ => id⟩⟩, fun b ⟨n, x, h, _⟩ => by simp at h, fun n x h => by simp at h, fun n m x y b h => by simp at h, fun n => by simp only [Conc], rfl, rfl⟩
theorem FunOk.law {P : Program} {f : Nat} {args : List SV} {h d} (hf : FunOk P f args h d (.pv (.b true)) []) (hc : SV.closedL args = true) {w : World} {vs : List Value} {ρ : Nat → Value} (hv : ConcL (Ao w fun _ => False) ρ args vs) (htw : Alq w) :
 Calls P f ⟨vs⟩ w fun e w' => e = .returned (.bool true) ∧ Below w.heap.size w w' := by
 have ht : A2 args = [] := by
  cases hx : A2 args with
  | nil => rfl
  | cons n l =>
    have : SV.killL n args = args := by
     have key : ∀ (l : List SV), SV.closedL l = true → ∀ n, SV.killL n l = l := fun l hl n => Fb n hl;exact key args hc n
    exact absurd (by rw [hx]; simp) (H6 this)
 have hV : (Ao w fun _ => False).le (vw ⟨w, fun _ => False, fun _ => False, fun _ => undef, []⟩ w (fun _ => undef) ⟨fun _ => .dead, fun _ => none⟩) :=
  A0 fun b c _ hb => ⟨fun hh => hh.elim (fun ⟨n, x, h, _⟩ => by simp at h) id, hb⟩
 refine Calls.mono (hf.2 _ 0 _ _ _ w (Amx w htw) (by rw [ht]; simp) vs (Gq hV hc hv)) fun e w' he => ?_;obtain ⟨v, ρ', rfl, hR, hy⟩ := he;exact ⟨by rw [Nl hy], hR.fr.os, hR.fr.tape, hR.fr.output, hR.fr.size, fun b hb => hR.fr.block b hb id⟩
end Go.Proofs.Ytagpocgklmeoiaa.Fw
namespace Go.Proofs.Ytagpocgklmeoiaa.Fw
open Go.RowKit
variable (E : Env)
def brK (a : C) (Q : Bx) (s : FS) : Prop := sx E a Q s
def gdK (k : Kd) (x : List Opd) (d : Nat) (l : List I) (Q : Bx) (s : FS) : Prop := body E k x d s (Pp E (some d) l Q s)
def skK (d : Option Nat) (l : List I) (Q : Bx) (s : FS) : Prop := Wq E l Q (s.apply d (.tup []) [])
def gdA (D : List Nat) (c : Nat) (k : Kd) (x : List Opd) (d : Nat) (l : List (I × Nat × List Nat)) (Q : Bx) (s : FS) : Prop := body E k x d s (Ho E D c (some d) l Q s)
def skA (D : List Nat) (c : Nat) (d : Option Nat) (l : List (I × Nat × List Nat)) (Q : Bx) (s : FS) : Prop := Ho E D c d l Q s (.tup []) []
def pkK (K : KK) (x : SV) : Prop := K x []
theorem E0 (a Q s) : brK E a Q s = sx E a Q s := (rfl)
theorem Ez (k x d l Q s) : gdK E k x d l Q s = body E k x d s (Pp E (some d) l Q s) := (rfl)
theorem Ey (d l Q s) : skK E d l Q s = Wq E l Q (s.apply d (.tup []) []) := (rfl)
theorem Ew (D c k x d l Q s) : gdA E D c k x d l Q s = body E k x d s (Ho E D c (some d) l Q s) := (rfl)
theorem Ev (D c d l Q s) : skA E D c d l Q s = Ho E D c d l Q s (.tup []) [] := (rfl)
theorem Er (K x) : pkK K x = K x [] := (rfl)
attribute [go_sem] Aji Ajj Akj Al9 Agu Adm Adl Ae3 Ae4 Ae5 Ae6 Al3 Al4 Al2 An7 An6 An8 Aqu Al8 Aet Aai Akk Ama Agv Ado Adn Ae7 Ae8 Ae9 Afa Av8 Av7 Av6 Ana Aig Ail Aeh Z2 Z3 Aii Aij Aih Aik Aqp Aqs Agt Al7 Aqr Al5 Al6 Aqt Asy Asz Apn Apo Aoc Aod Aoa Aof Aoe Ajs Ajt Afe Aju Afg Aff A0e Ax0 A0f f_p A0g Ax2 Ax1 A0h Ate Ao0 Ata Atb Ahd Qe Vr Ax4 Azl Ax5 Axp Asd Ann Aer Aaf Aes Aah Aag Az1 Axe Az4 Ass k_p Az2 Az3 Az6 Axh Axf Az7 Asv An0 Asq Asr Ao2 Aj4 Af1 A0p Aua Ays Ay5 Ay6 Aud Ay4 A0q Ayj Ay7 Ay0 A0n Ay2 Auc Ayo Ay8 Ayn Aym A0r Ayx Ayy Ayw Ayv Ayz Ayu Ay9 A0o Ayt Aub Azw Ar4 Arv Arw Awh Awt Awu Ar7 Aws Af2 Akq Azx Av9 Awv Awo Aj9 Aix Akz Azu Aql Awq Awd Aie Awc Awb Azy A0d Axy Awl As2 As3 Aje Axa Axb Axc Az0 Aw5 Aw6 Aw7 Any Ain Aio Ane Asc Aip Aej Ao8 Aki Amf Agz Azj Avt w_p Azn Azk Avu Avf Arf Avh Arg Aqh Aly Amp Ahb A0l Aye Ayf A0m Ats Apc Arx Avq Adq Avr Agx Avs Amc Amd Azm Avn Avo Amb A0a Afb Ajl Ao5 Ak6 Apm Az9 Axq Axr As7 Aoi A0i A0j Aww Auk Aui Awm Axo Awk Awj Awn Aia Aic Ar5 Azv Azz Awi Am8 Ayh Ayg At9 Aty At2 At0 Atz At8 Ayi At7 At1 At3 At4 At5 At6 Atv Atu Axw As9 A0c Axx Aqe Alx Auf Apl Azh Azi Amt Atg Aif As0 As1 Atc Aoy Ajy Are Ard Arc Arb Amk Aml Aw0 Awz Aq9 Aq8 Axn Axm if_true if_false Option.map_some Option.bind_some Nat.le_refl and_self List.append_nil List.nil_append List.cons_append true_and and_true true_or or_true Bool.false_and Bool.true_and Bool.false_or Bool.or_false Bool.and_false Bool.and_true Bool.not_true Bool.not_false Int.toNat_zero List.drop_zero Int.toNat_natCast Anf Nat.zero_add Nat.add_zero decide_true decide_false Ani Anj Anh Ark Ahl Arl Arm Z1 Av1 Av0 Ak4 Af5 Aen Aae Ano Ais Ai8 Aev Ai9 Aex Aew Aey Ajb Aja Ai6 Option.getD_some Option.getD_none true_implies false_implies Qa Q1 Jz C4 not_true_eq_false not_false_eq_true
attribute [go_sem_proc] Nat.reduceEqDiff Nat.reduceSub Nat.reduceLeDiff Nat.reduceAdd Int.reduceEq Int.reduceLT Int.reduceLE
attribute [go_sem_proc ↓] reduceIte
end Go.Proofs.Ytagpocgklmeoiaa.Fw
namespace Go.Proofs.Ytagpocgklmeoiaa.Fw
open Go.RowKit
def Cm (n : Nat) (f : Nat → PV) : List PV := (List.range n).map f
theorem Cq (n f) : (Cm n f).length = n := by simp [Cm]
theorem Ec {n k : Nat} (h : k < n) (f) : (Cm n f)[k]? = some (f k) := by simp [Cm, h]
theorem Af4 {n k : Nat} (h : k < n) (f d) : (Cm n f).getD k d = f k := by rw [List.getD_eq_getElem?_getD, Ec h]; rfl
theorem Ga {n : Nat} {f g : Nat → PV} (h : ∀ i, i < n → f i = g i) : Cm n f = Cm n g := by
 unfold Cm; exact List.map_congr_left fun i hi => h i (by simpa using hi)
theorem Ak3 {n a b : Nat} (h : a + b ≤ n) (f) : ((Cm n f).drop a).take b = Cm b fun i => f (a + i) := by
 apply List.ext_getElem?;intro k;simp only [List.getElem?_take, List.getElem?_drop, Cm, List.getElem?_map];by_cases hk : k < b
 · simp only [hk, if_true];rw [List.getElem?_range (by omega), List.getElem?_range hk]; rfl
 · simp only [hk, if_false];rw [List.getElem?_eq_none (by simp; omega)]; rfl
theorem Px {n a m : Nat} (h : a + m ≤ n) (f g) : splice (Cm n f) a (Cm m g) = Cm n fun i => if a ≤ i ∧ i < a + m then g (i - a) else f i := by
 apply List.ext_getElem?;intro k;unfold splice;rw [Cq];simp only [List.getElem?_append, List.length_append, List.length_take, Cq, List.getElem?_take, List.getElem?_drop];rw [Nat.min_eq_left (by omega)];by_cases h1 : k < a + m
 · rw [if_pos h1];by_cases h2 : k < a
   · rw [if_pos h2, if_pos h2, Ec (by omega), Ec (by omega), if_neg (by omega)]
   · rw [if_neg h2, Ec (by omega), Ec (by omega), if_pos (by omega)]
 · rw [if_neg h1];by_cases h3 : k < n
   · rw [Ec (by omega), Ec (by omega), if_neg (by omega)];congr 2; omega
   · rw [List.getElem?_eq_none (by rw [Cq]; omega), List.getElem?_eq_none (by rw [Cq]; omega)]
theorem Y0 {n : Nat} {f g : Nat → PV} : Cm n f = Cm n g ↔ ∀ i, i < n → f i = g i := by
 refine ⟨fun e i hi => ?_, Ga⟩;have := congrArg (·[i]?) e;simp only [Ec hi, Option.some.injEq] at this;exact this
theorem Ak2 (f) : Cm 1 f = [f 0] := rfl
theorem Xy {n k : Nat} (h : k < n) (f K) : LoadK (some (Cm n f)) k 1 false K = K (.pv (f k)) [] := by
 simp only [LoadK, Cq, Ja, Af4 h];simp; omega
theorem Aem {n k m : Nat} (h : k + m ≤ n) (f K) : LoadK (some (Cm n f)) k m true K = K (.vec m (Cm m fun i => f (k + i))) [] := by
 simp only [LoadK, Cq, Ja, Ak3 h];simp; omega
def J8 {α : Type} (a : Nat → α) (k : Nat) (x : α) : Nat → α := fun i => if i = k then x else a i
theorem Yz {n k : Nat} (h : k < n) (f c) : splice (Cm n f) k [c] = Cm n (J8 f k c) := by
 have := Px (a := k) (m := 1) (n := n) (by omega) f fun _ => c;rw [Ak2] at this;rw [this];exact Ga fun i hi => by
  unfold J8;by_cases e : i = k
  · subst e; simp
  · rw [if_neg (by omega), if_neg e]
abbrev Vc := Nat → Nat
def vE (a : Vc) : List PV := Cm 8 fun i => .i .u32 (a i : Int)
def tE (t : Nat → Vc) : List PV := Cm 64 fun i => .i .u32 (t (i / 8) (i % 8) : Int)
def wE (w : Nat → Bool) : List PV := Cm 8 fun i => .b (w i)
def Ze (a b : Vc) : Prop := ∀ i, i < 8 → a i = b i
instance (a b : Vc) : Decidable (Ze a b) := inferInstanceAs (Decidable (∀ i, i < 8 → a i = b i))
def tEq (s t : Nat → Vc) : Prop := ∀ i, i < 8 → Ze (s i) (t i)
instance (a b : Nat → Vc) : Decidable (tEq a b) := inferInstanceAs (Decidable (∀ i, i < 8 → Ze (a i) (b i)))
theorem J1 {a b : Vc} (h : ∀ i, i < 8 → a i = b i) : vE a = vE b := Ga fun i hi => by rw [h i hi]
theorem Aqj {a b : Vc} : vE a = vE b ↔ Ze a b := by
 unfold vE Ze; rw [Y0];refine forall_congr' fun i => forall_congr' fun hi => ?_;simp only [PV.i.injEq, true_and]; omega
theorem Zk {s t : Nat → Vc} (h : ∀ i, i < 8 → ∀ j, j < 8 → s i j = t i j) : tE s = tE t := Ga fun i hi => by rw [h (i / 8) (by omega) (i % 8) (by omega)]
theorem Aqo {s t : Nat → Vc} : tE s = tE t ↔ tEq s t := by
 unfold tE tEq Ze; rw [Y0];constructor
 · intro h i hi j hj;have := h (i * 8 + j) (by omega);rw [show (i * 8 + j) / 8 = i from by omega, show (i * 8 + j) % 8 = j from by omega] at this;simp only [PV.i.injEq, true_and] at this; omega
 · intro h i hi; rw [h (i / 8) (by omega) (i % 8) (by omega)]
theorem H5 (a) : (vE a).length = 8 := Cq ..
theorem Oc (a) : (tE a).length = 64 := Cq ..
theorem Bi (a) : Di [.int .u32, .int .u32, .int .u32, .int .u32, .int .u32, .int .u32, .int .u32, .int .u32] (vE a) = True := eq_true rfl
theorem V0 (a) : Di [.int .u32, .int .u32, .int .u32, .int .u32, .int .u32, .int .u32, .int .u32, .int .u32, .int .u32, .int .u32, .int .u32, .int .u32, .int .u32, .int .u32, .int .u32, .int .u32, .int .u32, .int .u32, .int .u32, .int .u32, .int .u32, .int .u32, .int .u32, .int .u32, .int .u32, .int .u32, .int .u32, .int .u32, .int .u32, .int .u32, .int .u32, .int .u32, .int .u32, .int .u32, .int .u32, .int .u32, .int .u32, .int .u32, .int .u32, .int .u32, .int .u32, .int .u32, .int .u32, .int .u32, .int .u32, .int .u32, .int .u32, .int .u32, .int .u32, .int .u32, .int .u32, .int .u32, .int .u32, .int .u32, .int .u32, .int .u32, .int .u32, .int .u32, .int .u32, .int .u32, .int .u32, .int .u32, .int .u32, .int .u32] (tE a) = True := eq_true rfl
theorem Ca (a b) : Ts (vE a) (vE b) = decide (Ze a b) := by unfold Ts; exact decide_eq_decide.2 Aqj
theorem Z5 (a b) : Ts (tE a) (tE b) = decide (tEq a b) := by unfold Ts; exact decide_eq_decide.2 Aqo
theorem Ank {k : Nat} (h : k < 8) (a K) : LoadK (some (vE a)) k 1 false K = K (.pv (.i .u32 (a k))) [] := Xy h _ _
theorem Anl {k : Nat} (h : k < 8) (t K) : LoadK (some (tE t)) (k * 8) 8 true K = K (.vec 8 (vE (t k))) [] := by
 unfold tE; rw [Aem (by omega)];congr 2;exact Ga fun i hi => by rw [show (k * 8 + i) / 8 = k from by omega, show (k * 8 + i) % 8 = i from by omega]
theorem Adr {k : Nat} (h : k < 8) (a : Vc) (n : Nat) : splice (vE a) k [.i .u32 (n : Int)] = vE (J8 a k n) := by
 unfold vE; rw [Yz h];exact Ga fun i hi => by unfold J8; split <;> rfl
theorem Tr {k : Nat} (h : k < 8) (t : Nat → Vc) (v : Vc) : splice (tE t) (k * 8) (vE v) = tE (J8 t k v) := by
 unfold tE vE; rw [Px (by omega)];exact Ga fun i hi => by
  unfold J8;by_cases e : i / 8 = k
  · rw [if_pos (by omega), if_pos e, show i - k * 8 = i % 8 from by omega]
  · rw [if_neg (by omega), if_neg e]
theorem Abn : ([.i .u32 0, .i .u32 0, .i .u32 0, .i .u32 0, .i .u32 0, .i .u32 0, .i .u32 0, .i .u32 0] : List PV) = vE fun _ => 0 := rfl
theorem Alu : ([.b false, .b false, .b false, .b false, .b false, .b false, .b false, .b false] : List PV) = wE fun _ => false := rfl
theorem Aro : List.replicate 8 (PV.i .u32 0) = vE fun _ => 0 := rfl
theorem Arn : List.replicate 8 (PV.b false) = wE fun _ => false := rfl
theorem Arp : List.replicate 64 (PV.i .u32 0) = tE fun _ _ => 0 := rfl
def iE (f : Nat → Int) : List PV := Cm 8 fun i => .i .i64 (f i)
theorem Ae1 (a) : (iE a).length = 8 := Cq ..
theorem Anm {k : Nat} (h : k < 8) (a K) : LoadK (some (iE a)) k 1 false K = K (.pv (.i .i64 (a k))) [] := Xy h _ _
theorem Ads {k : Nat} (h : k < 8) (a : Nat → Int) (n : Int) : splice (iE a) k [.i .i64 n] = iE (J8 a k n) := by
 unfold iE; rw [Yz h];exact Ga fun i hi => by unfold J8; split <;> rfl
theorem Alv : ([.i .i64 0, .i .i64 0, .i .i64 0, .i .i64 0, .i .i64 0, .i .i64 0, .i .i64 0, .i .i64 0] : List PV) = iE fun _ => 0 := rfl
theorem Arq : List.replicate 8 (PV.i .i64 0) = iE fun _ => 0 := rfl
theorem Cw (c cs K) : LoadK (some (c :: cs)) 0 1 false K = K (.pv c) [] := by
 simp [LoadK, Ja]
theorem Acf (c cs n m ag K) : LoadK (some (c :: cs)) (n + 1) m ag K = LoadK (some cs) n m ag K := by
 simp only [LoadK, List.length_cons];have e : Ja (c :: cs) (n + 1) m ag = Ja cs n m ag := by cases ag <;> simp [Ja]
 rw [e];congr 1;exact propext ⟨fun h => by omega, fun h => by omega⟩
theorem Ie (a K) : LoadK (some (vE a)) 0 8 true K = K (.vec 8 (vE a)) [] := by
 simp only [LoadK, H5, Ja];rw [List.drop_zero, List.take_of_length_le (by rw [H5]; omega)]; simp
theorem I5 {cs : List PV} {m : Nat} (h : cs.length = m) (K) : LoadK (some cs) 0 m true K = K (.vec m cs) [] := by
 simp only [LoadK, Ja];rw [List.drop_zero, List.take_of_length_le (by omega)]; simp; omega
theorem Ar2 {p q : Prop} (h : p) : (p ∧ q) = q := propext ⟨fun x => x.2, fun x => ⟨h, x⟩⟩
theorem Ax8 {a b : Int} (h : a < b) : decide (a < b) = true := decide_eq_true h
theorem Ax9 {a b : Int} (h : ¬ a < b) : decide (a < b) = false := decide_eq_false h
theorem Aya {a b : Int} (h : a ≤ b) : decide (a ≤ b) = true := decide_eq_true h
theorem Ayb {a b : Int} (h : ¬ a ≤ b) : decide (a ≤ b) = false := decide_eq_false h
theorem Ayc {a b : Int} (h : a = b) : decide (a = b) = true := decide_eq_true h
theorem Ayd {a b : Int} (h : ¬ a = b) : decide (a = b) = false := decide_eq_false h
theorem Aa1 {a b : List UInt8} (h : Ac a = Ac b) : a = b := by
 induction a generalizing b with
 | nil => cases b with
   | nil => rfl
   | cons y b => simp [Ac] at h
 | cons x a ih => cases b with
   | nil => simp [Ac] at h
   | cons y b =>
     simp only [Ac, List.map_cons, List.cons.injEq, PV.i.injEq, true_and, and_true] at h;rw [ih h.2]; congr 1;exact UInt8.toNat_inj.1 (by have := h.1; omega)
theorem Ako (l K) : Ta (Ac l) K = K (.pv (.s l)) [] := by
 unfold Ta;exact propext ⟨fun ⟨m, e, h⟩ => by rw [Aa1 e]; exact h, fun h => ⟨l, rfl, h⟩⟩
theorem Bg {l : List UInt8} {k : Nat} (h : k < l.length) (K) : LoadK (Ac l)[k]? 0 1 false K = K (.pv (.i .u8 (l.getD k 0).toNat)) [] := by
 rw [Aa2 l k h];simp only [LoadK, Ja];simp [List.getD_eq_getElem?_getD, h]
theorem Ack {n : Nat} {a b : List PV} (h : a = b) : Imp (.vec n a) (.vec n b) := h ▸ Imp.refl _
theorem An9 {k : IntKind} {a b : Int} (h : a = b) : Imp (.pv (.i k a)) (.pv (.i k b)) = True := eq_true (h ▸ Imp.refl _)
def P2 (n m : Nat) : List (Nat × SV) → List (Nat × SV)
 | [] => []
 | (j, x) :: l => (j, x.ren n m) :: P2 n m l
def Kc (n m : Nat) : List (Nat × Option Blk) → List (Nat × Option Blk)
 | [] => []
 | (j, some x) :: l => (if j = m then (j, none) else (j, some (x.ren n m))) :: Kc n m l
 | (j, none) :: l => (j, none) :: Kc n m l
theorem Acg (n m k) : ∀ t : List (Nat × SV), lk .dead k (P2 n m t) = (lk .dead k t).ren n m
 | [] => by simp [P2, lk, SV.ren]
 | (j, x) :: l => by
   simp only [P2, lk, Acg n m k l];split <;> rfl
theorem Ql (n m k) (hk : k ≠ m) : ∀ t : List (Nat × Option Blk), lk none k (Kc n m t) = (lk none k t).map (Blk.ren n m)
 | [] => by simp [Kc, lk]
 | (j, some x) :: l => by
   by_cases hj : j = m
   · subst hj; simp [Kc, lk, hk, Ql n j k hk l]
   · simp only [Kc, hj, if_false, lk, Ql n m k hk l];split <;> rfl
 | (j, none) :: l => by
   simp only [Kc, lk, Ql n m k hk l];split <;> simp
theorem Ahm (t h n m) (hne : n ≠ m) : (mk t h).ren n m = mk (P2 n m t) ((n, none) :: (m, (lk none n h).map (Blk.ren n m)) :: Kc n m h) := by
 have e1 : (fun k => ((mk t h).t k).ren n m) = (mk (P2 n m t) ((n, none) :: (m, (lk none n h).map (Blk.ren n m)) :: Kc n m h)).t := by
  funext k; simp only [mk, Acg]
 have e2 : ((mk t h).ren n m).h = (mk (P2 n m t) ((n, none) :: (m, (lk none n h).map (Blk.ren n m)) :: Kc n m h)).h := by
  funext k;simp only [FS.ren, mk, lk];by_cases h1 : k = m
  · subst h1; rw [if_pos rfl, if_neg (Ne.symm hne), if_pos rfl]
  · rw [if_neg h1];by_cases h2 : k = n
    · subst h2; simp
    · rw [if_neg h2, if_neg h2, if_neg h1, Ql n m k h1]
 show FS.mk _ _ = FS.mk _ _;congr 1
theorem C0 {t : List (Nat × SV)} {h : List (Nat × Option Blk)} {s' : FS} (n m : Nat) (hne : n ≠ m) (hm : lk none m h = none) (hw : Wk (mk (P2 n m t) ((n, none) :: (m, (lk none n h).map (Blk.ren n m)) :: Kc n m h)) s') : Wk (mk t h) s' :=
 .ren n m hne hm (by rw [Ahm _ _ _ _ hne]; exact hw)
theorem Zh {t : List (Nat × SV)} {h : List (Nat × Option Blk)} {s' : FS} (k n sz : Nat) {z : Nat} (ht : lk .dead k t = .pv (.sl true z [])) (hs : 0 < sz) (hw : Wk (mk ((k, .os n) :: Lv n t) ((n, some (.row sz [])) :: Hj n h)) s') : Wk (mk t h) s' :=
 .nil k n z sz ht hs (by rw [Vr, Qe, Ahd]; exact hw)
theorem Az {α : Type} {I : α → FS} {J : α → Prop} {m : α → Nat} {x : α} {s : FS} (y : α) (T : List (Nat × SV)) (H : List (Nat × Option Blk)) (hI : I y = mk T H) (hJ : J y) (hm : m y < m x) (h1 : Ya s T) (h2 : P4 s H) : ∃ y, J y ∧ m y < m x ∧ Wk s (I y) :=
 ⟨y, hJ, hm, hI ▸ Ar h1 h2⟩
theorem Zi {k : Nat} (f g : Vc) (n : Nat) (hn : n = f k) : vE (J8 (fun i => if i < k then f i else g i) k n) = vE fun i => if i < k + 1 then f i else g i := by
 subst hn;exact J1 fun i hi => by unfold J8; grind
theorem Aqk (f g : Vc) {k : Nat} (h : 8 ≤ k) : (vE fun i => if i < k then f i else g i) = vE f := J1 fun i hi => by rw [if_pos (by omega)]
theorem Alz (f g : Vc) {k : Nat} (h : k = 0) : (vE fun i => if i < k then f i else g i) = vE g := J1 fun i hi => by rw [if_neg (by omega)]
theorem Ra {k : Nat} (f g : Nat → Vc) (n : Vc) (hn : ∀ i, i < 8 → n i = f k i) : tE (J8 (fun i => if i < k then f i else g i) k n) = tE fun i => if i < k + 1 then f i else g i :=
 Zk fun i hi j hj => by unfold J8; grind
theorem Ags (f g : Nat → Vc) {k : Nat} (h : 8 ≤ k) : (tE fun i => if i < k then f i else g i) = tE f := Zk fun i hi j hj => by rw [if_pos (by omega)]
theorem Abs (f g : Nat → Vc) {k : Nat} (h : k = 0) : (tE fun i => if i < k then f i else g i) = tE g := Zk fun i hi j hj => by rw [if_neg (by omega)]
theorem Azo (n m x) : SV.ren n m (.pv x) = .pv x := (rfl)
theorem Avv (n m k x) : SV.ren n m (.vec k x) = .vec k x := (rfl)
theorem Azr (n m a b c d) : SV.ren n m (.pi a b c d) = .pi a b c d := (rfl)
theorem r_p (n m k o) : SV.ren n m (.p k o) = if k = n then .p m o else if k = m then .dead else .p k o := (rfl)
theorem Azp (n m k o) : SV.ren n m (.ps k o) = if k = n then .ps m o else if k = m then .dead else .ps k o := (rfl)
theorem Azq (n m k s i o) : SV.ren n m (.pr k s i o) = if k = n then .pr m s i o else if k = m then .dead else .pr k s i o := (rfl)
theorem Azs (n m k) : SV.ren n m (.os k) = if k = n then .os m else if k = m then .dead else .os k := (rfl)
theorem Avy (n m l) : SV.ren n m (.agg l) = .agg (SV.renL n m l) := (rfl)
theorem Avw (n m l) : SV.ren n m (.tup l) = .tup (SV.renL n m l) := (rfl)
theorem Azt (n m f l) : SV.ren n m (.fn f l) = .fn f (SV.renL n m l) := (rfl)
theorem Art (n m) : SV.renL n m [] = [] := (rfl)
theorem Amz (n m x l) : SV.renL n m (x :: l) = SV.ren n m x :: SV.renL n m l := (rfl)
theorem Arr (n m x) : Blk.ren n m (.var x) = .var (x.ren n m) := (rfl)
theorem Ars (n m a b) : Blk.ren n m (.row a b) = .row a b := (rfl)
theorem Ahn (n m) : P2 n m [] = [] := (rfl)
theorem Ad6 (n m j x l) : P2 n m ((j, x) :: l) = (j, x.ren n m) :: P2 n m l := (rfl)
theorem Aho (n m) : Kc n m [] = [] := (rfl)
theorem Ad8 (n m j x l) : Kc n m ((j, some x) :: l) = (if j = m then (j, none) else (j, some (x.ren n m))) :: Kc n m l := (rfl)
theorem Ad7 (n m j l) : Kc n m ((j, none) :: l) = (j, none) :: Kc n m l := (rfl)
theorem Atd (p : List PV → Prop) : (∀ c, c ∈ ([] : List (List PV)) → p c) = True := by simp
theorem Aoz (x l) (p : List PV → Prop) : (∀ c, c ∈ x :: l → p c) = (p x ∧ ∀ c, c ∈ l → p c) := by simp
theorem Ax3 (d : Nat) (p : Nat → Prop) : (∃ n, SV.os d = SV.os n ∧ p n) = p d := propext ⟨fun ⟨n, e, h⟩ => by cases e; exact h, fun h => ⟨d, rfl, h⟩⟩
theorem Ath (d : Nat) (z z' : SV) (p : Nat → Prop) : (∃ n, SV.tup [.os d, z] = SV.tup [.os n, z'] ∧ p n) = (z = z' ∧ p d) := propext ⟨fun ⟨n, e, h⟩ => by cases e; exact ⟨rfl, h⟩, fun ⟨e, h⟩ => ⟨d, by rw [e], h⟩⟩
theorem Wa (l : List UInt8) (n : Nat) : (Ac l).take n = Ac (l.take n) := by simp [Ac]
theorem Wb (l : List UInt8) (n : Nat) : (Ac l).drop n = Ac (l.drop n) := by simp [Ac]
attribute [go_sem] Wb Wa List.take_length Atd Aoz Ax3 Ath List.length_cons List.length_nil Ae1 Anm Ads Alv Arq Azo Avv Azr r_p Azp Azq Azs Avy Avw Azt Art Amz Arr Ars Ahn Ad6 Aho Ad8 Ad7 Cw Acf Ie An9 Int.natCast_zero Ank Anl Adr Tr Abn Alu Aro Arn Arp H5 Oc Bi V0 Ca Z5 Ar2 Ax8 Ax9 Aya Ayb Ayc Ayd Ako Aq Nat.mul_one Bool.false_xor Bool.true_xor
section slices
variable (E : Env)
theorem Az5 (n m z a b) : SV.kill n (.ov m z a b) = if n = m then .dead else .ov m z a b := (rfl)
theorem Ay1 (n x d s K) : body E (.eqn n) x d s K = Ag d s.h (.eqn n) (Be s x) K := (rfl)
theorem Ayl (n a b x d s K) : body E (.slv n a b) x d s K = Ag d s.h (.slv n a b) (Be s x) K := (rfl)
theorem Ayk (n x d s K) : body E (.slx n) x d s K = Ag d s.h (.slx n) (Be s x) K := (rfl)
theorem Aid (d h n f z es K) : Ag d h (.eqn n) [.pv (.sl f z es)] K = So n (some es) K := (rfl)
theorem Akc (n es K) : So n (some es) K = ∀ b : Bool, (es ≠ [] → b = false) → K (.pv (.b (n ^^ b))) [] := (rfl)
theorem Akg (sz es) : C8 (some (.row sz es)) = some es := (rfl)
theorem Ahi (sz es) : Cr (some (.row sz es)) = sz := (rfl)
theorem Afq (h n z a b) : Fq h (.ov n z a b) = (C8 (h n)).map fun es => (es.take b).drop a := (rfl)
theorem Akf (h n z a b) : Hn h (.ov n z a b) = if Cr (h n) = z then z else 0 := (rfl)
theorem Ay3 (n z x d s K) : body E (.clr n z) x d s K = Ag d s.h (.clr n z) (Be s x) K := (rfl)
theorem Awr (d h sz z x K) : Ag d h (.clr sz z) [x] K = O4 h sz z x K := (rfl)
theorem Afv (h sz n z zz a b K) : O4 h sz zz (.ov n z a b) K = (z = sz ∧ V9 (h n) n sz zz a b K) := (rfl)
theorem Akl (sz' es n sz zz lo hi K) : V9 (some (.row sz' es)) n sz zz lo hi K = (sz = sz' ∧ K (.tup []) [.upd n (.row sz (es.take lo ++ List.replicate (hi - lo) zz ++ es.drop hi))]) := (rfl)
theorem Awa (d h sz a b x l K) : Ag d h (.slv sz a b) (x :: l) K = J7 h sz a b x l K := (rfl)
theorem Adu (h sz a b n l K) : J7 h sz a b (.os n) l K = Adx n sz b (C8 (h n)) (Cr (h n)) (E7 a 0 l) K := (rfl)
theorem Adt (h sz a b n z lo hi l K) : J7 h sz a b (.ov n z lo hi) l K = (z = sz ∧ lo = 0 ∧ a = true ∧ b = true ∧ Adv (h n) n sz l K) := (rfl)
theorem Aq4 (o n sz k i k' j K) : Adv o n sz [.pv (.i k i), .pv (.i k' j)] K = Zr (C8 o) (Cr o) n sz i j K := (rfl)
theorem Aq3 (es z n sz i j K) : Zr (some es) z n sz i j K = (sz = z ∧ 0 ≤ i ∧ i ≤ j ∧ j ≤ es.length ∧ K (.ov n sz i.toNat j.toNat) []) := (rfl)
theorem Aib (d h n z a b K) : Ag d h .len [.ov n z a b] K = K (.pv (.i .i64 ((b - a : Nat) : Int))) [] := (rfl)
theorem Awp (d h g n o K) : Ag d h (.eqv g []) [.p n o] K = K (.pv (.b g)) [] := (rfl)
theorem Ar6 (d h g K) : Ag d h (.eqv g []) [.pv (.v (.pointer none))] K = K (.pv (.b !g)) [] := (rfl)
theorem Auj (h d sz b n z lo i y K) : H4 h d sz b (.ov n z lo i) y K = (z = sz ∧ lo = 0 ∧ Kz (h n) n sz i (Fq h y) (Hn h y) K) := (rfl)
theorem Ak5 (sz' es ys n sz i z K) : Kz (some (.row sz' es)) n sz i (some ys) z K = (sz = sz' ∧ (ys = [] ∨ z = sz) ∧ i + ys.length ≤ es.length ∧ K (.ov n sz 0 (i + ys.length)) [.upd n (.row sz (es.take i ++ ys ++ es.drop (i + ys.length)))]) := (rfl)
theorem Ar3 (d h sz n k i k' j k'' m K) : Ag d h (.slx sz) [.os n, .pv (.i k i), .pv (.i k' j), .pv (.i k'' m)] K = Ag0 (C8 (h n)) (Cr (h n)) sz i j m K := (rfl)
theorem Aq1 (es z sz i j m K) : Ag0 (some es) z sz i j m K = (sz = z ∧ 0 ≤ i ∧ i ≤ j ∧ j ≤ m ∧ m ≤ es.length ∧ K .dead []) := (rfl)
attribute [go_sem] Adt Aq4 Aq3 Aib Awp Ar6 Auj Ak5 Ar3 Aq1
theorem Aq6 (n sz hi es z i l K) : Adx n sz hi (some es) z (some (i, l)) K = (sz = z ∧ Adw n sz es.length i (E7 hi es.length l) K) := (rfl)
theorem Aq5 (n sz len i j l K) : Adw n sz len i (some (j, l)) K = (0 ≤ i ∧ i ≤ j ∧ j ≤ len ∧ K (.ov n sz i.toNat j.toNat) []) := (rfl)
attribute [go_sem] Ay3 Awr Afv Akl Az5 Ay1 Ayl Ayk Aid Akc Akg Ahi Afq Akf Awa Adu Aq6 Aq5 Nat.sub_zero
end slices
section own
variable {P : Program} {F : Fr} {N : Nat} {ρ : Nat → Value} {s : FS} {a : Act} {w w' : World} {K : KK} {V : View}
theorem Yb {u : List HU} : ∀ (ts : List Nat) (s : FS), s.hup (ts.map HU.del ++ u) = (Ay s ts).hup u
 | [], s => by simp [Ay]
 | n :: ts, s => by
   simp only [List.map_cons, List.cons_append, FS.hup];rw [Yb ts];congr 1;refine FS.ext' (fun _ => rfl) (fun m => ?_);simp only [Ay, FS.seth, List.mem_cons];by_cases h1 : m ∈ ts
   · simp [h1]
   · by_cases h2 : m = n <;> simp [h1, h2]
def P3 (ρ : Nat → Value) (h : Nat → Option Blk) (ts : List Nat) (b : Nat) : Prop := ∃ n ∈ ts, ∃ blk, h n = some blk ∧ Bl (ρ n) = some b
theorem RelR.swapin (hR : RelR F N ρ s a w) (ts : List Nat) (d : Nat) (blk : Blk) (p : Value)
 (hos : w'.os = w.os) (htape : w'.tape = w.tape) (hout : w'.output = w.output) (hsize : w.heap.size ≤ w'.heap.size) (hblock : ∀ b, b < w.heap.size → ¬ P3 ρ s.h ts b → w'.heap[b]? = w.heap[b]?)
 (hid : ∀ b, Bl p = some b → (w.heap.size ≤ b ∧ b < w'.heap.size) ∨ P3 ρ s.h ts b)
 (hown : Own w' (vw F w' (Fw.upd ρ d p) (((Ay s ts).kill d).seth d (some blk))) (Fw.upd ρ d p) d blk) :
 RelR F N (Fw.upd ρ d p) (((Ay s ts).kill d).seth d (some blk)) a w' ∧ (vw F w ρ s).le (vw F w' (Fw.upd ρ d p) (((Ay s ts).kill d).seth d (some blk))) := by
 have hs : ∀ m x, (((Ay s ts).kill d).seth d (some blk)).h m = some x → (m = d ∧ x = blk) ∨ (m ≠ d ∧ m ∉ ts ∧ ∃ y, s.h m = some y ∧ x = y.kill d) := by
  intro m x hm;simp only [Ay, FS.seth, FS.kill] at hm;by_cases e : m = d
  · simp only [e, if_true] at hm; cases hm; exact .inl ⟨e, rfl⟩
  · simp only [e, if_false] at hm;by_cases e2 : m ∈ ts
    · simp [e2] at hm
    · simp only [e2, if_false] at hm;cases hy : s.h m with
      | none => rw [hy] at hm; cases hm
      | some y => rw [hy] at hm; cases hm; exact .inr ⟨e, e2, y, rfl, rfl⟩
 have mo : ∀ b, P3 ρ s.h ts b → Bd ρ s.h b := fun b ⟨n, _, y, h1, h2⟩ => ⟨n, y, h1, h2⟩
 have key : ∀ b, Bd (Fw.upd ρ d p) (((Ay s ts).kill d).seth d (some blk)).h b → Bd ρ s.h b ∨ (w.heap.size ≤ b ∧ b < w'.heap.size) := by
  rintro b ⟨m, x, hm, hb⟩;rcases hs m x hm with ⟨rfl, rfl⟩ | ⟨e1, e2, y, hy, rfl⟩
  · rw [Al] at hb;rcases hid b hb with h | h
    · exact .inr h
    · exact .inl (mo b h)
  · rw [A3 e1] at hb; exact .inl ⟨m, y, hy, hb⟩
 have hV : (vw F w ρ s).le (vw F w' (Fw.upd ρ d p) (((Ay s ts).kill d).seth d (some blk))) := A0 fun b c ho hc => by
  have hlt := Eh hc;refine ⟨fun hb => ?_, ?_⟩
  · rcases hb with hb | hb
    · rcases key b hb with h | h
      · exact ho (.inl h)
      · omega
    · exact ho (.inr hb)
  · rw [Bv (hblock b hlt fun h => ho (.inl (mo b h)))]; exact hc
 refine ⟨⟨⟨hos.trans hR.fr.os, htape.trans hR.fr.tape, hout.trans hR.fr.output, Nat.le_trans hR.fr.size hsize, fun b hb hm => ?_, hR.fr.hid, hR.fr.tab⟩, fun b hb => ?_, fun m x hm => ?_, fun m k x y b hm hk hbm hbk => ?_, fun m => ?_, hR.size, hR.defers⟩, hV⟩
 · rw [hblock b (Nat.lt_of_lt_of_le hb hR.fr.size) fun h => by
    rcases hR.may b (mo b h) with h1 | h1
    · omega
    · exact hm h1]
   exact hR.fr.block b hb hm
 · rcases key b hb with h | h
   · exact hR.may b h
   · exact .inl (Nat.le_trans hR.fr.size h.1)
 · rcases hs m x hm with ⟨rfl, rfl⟩ | ⟨e1, e2, y, hy, rfl⟩
   · exact hown
   · have ho := hR.own m y hy;exact (ho.congr (V' := vw F w ρ s) (w' := w') (fun _ _ x => x) (fun b hb => hblock b (ho.lt hb) fun ⟨n, hn, z, hz, hb'⟩ => e2 (by rw [hR.inj m n y z b hy hz hb hb']; exact hn))).kill hV e1
 · rcases hs m x hm with ⟨rfl, rfl⟩ | ⟨e1, e2, z, hz, rfl⟩
   · rcases hs k y hk with ⟨rfl, rfl⟩ | ⟨f1, f2, u, hu, rfl⟩
     · rfl
     · exfalso; rw [Al] at hbm; rw [A3 f1] at hbk;rcases hid b hbm with h | ⟨n, hn, q, hq, hb'⟩
       · have := (hR.own k u hu).lt hbk; omega
       · exact f2 (by rw [hR.inj k n u q b hu hq hbk hb']; exact hn)
   · rcases hs k y hk with ⟨rfl, rfl⟩ | ⟨f1, f2, u, hu, rfl⟩
     · exfalso; rw [Al] at hbk; rw [A3 e1] at hbm;rcases hid b hbk with h | ⟨n, hn, q, hq, hb'⟩
       · have := (hR.own m z hz).lt hbm; omega
       · exact e2 (by rw [hR.inj m n z q b hz hq hbm hb']; exact hn)
     · rw [A3 e1] at hbm; rw [A3 f1] at hbk;exact hR.inj m k z u b hz hu hbm hbk
 · show Conc _ _ ((s.t m).kill d) _;exact (hR.tmps m).kill hV
theorem Afy (hm : P.follows .mixedOrders = true) {f N' : Nat} {rs : List Rv} {c : C} (hf : A8 P f = some (N', rs, c)) {F' : Fr} {s0 : FS} {vs : List Value} (h0 : F'.defs = []) (hok : F'.ok F'.w0) (hm0 : ∀ b, F'.M0 b → b < F'.w0.heap.size)
 (hR : RelR F' N' ρ s0 { tmps := (⟨vs⟩ : Array Value) ++ Array.replicate (N' - (⟨vs⟩ : Array Value).size) undef, defers := [] } w) {R : SV → (Nat → Option Blk) → Prop} (hrun : sx (Yn P F' N') c (Tj rs R) s0) :
 Calls P f ⟨vs⟩ w fun e w' => ∃ v ρ' s' a' y, e = .returned v ∧ RelR F' N' ρ' s' a' w' ∧ Conc (vw F' w' ρ' s') ρ' y v ∧ R y s'.h :=
 Aa0 hm hf h0 hok hm0 hR (R := fun y s => R y s.h) hrun
def Gf (h : Nat → Option Blk) : List Nat → List (Nat × Option Blk)
 | [] => []
 | n :: l => (n, h n) :: Gf h l
theorem X0 (h : Nat → Option Blk) (n : Nat) : ∀ ts : List Nat, lk none n (Gf h ts) = if n ∈ ts then h n else none
 | [] => by simp [Gf, lk]
 | m :: ts => by
   simp only [Gf, lk, X0 h n ts, List.mem_cons];by_cases e : n = m
   · subst e; simp
   · simp [e]
theorem Yf (hm : P.follows .mixedOrders = true) {f N' : Nat} {rs : List Rv} {c : C} (hf : A8 P f = some (N', rs, c)) {args : List SV} {h : Nat → Option Blk} {d : Nat} {sz : Nat} {es : List (List PV)} (hlen : args.length ≤ N')
 (hargs : Bh args = true) (hx : SV.closedL args = true ∨ ∀ c ∈ es, c.all PV.flat = true) (hrun : ∀ F, sx (Yn P F N') c (Tj rs fun y g => (∃ n, y = .os n ∧ g n = some (.row sz es)) ∨ ∃ z, y = .pv (.sl true z []) ∧ es = [] ∧ 0 < sz) (mk (Cn 0 (Dg h args)) [])) :
 FunOk P f args h d (.os d) [.new d (.row sz es)] := by
 refine ⟨Cb hf, fun F N ρ s a w hR hh vs hc => ?_⟩;refine Calls.mono (Df hm hf (h := h) hlen hargs Kb hrun hR hh hc) fun e w' he => ?_;obtain ⟨v, rfl, hg, N'', ρ', s', a', y, hR', hy, hyy⟩ := he;rcases hyy with ⟨n, rfl, hn⟩ | ⟨z, rfl, rfl, hsz⟩
 case inr =>
  simp only [Conc] at hy;have hv : ∃ base, v = .slice base 0 0 := by
   cases hy with
   | sl full sz es b cap cs bl off arr hcap hfull hsz ha hcs hel =>
     have := hfull rfl;simp at this;subst this;exact ⟨b, rfl⟩
  obtain ⟨base, rfl⟩ := hv;obtain ⟨h1, _⟩ := (hR.grew hg).new (Grew.refl w') d (.row sz []) (.slice base 0 0) (fun b hb => by cases base <;> simp [Bl] at hb) (fun V' _ => ⟨base, 0, by rw [Al]; rfl, Nat.le_refl _, hsz, by simp, fun h => absurd rfl h⟩);exact ⟨_, _, rfl, h1, Fa⟩
 simp only [Conc] at hy;obtain ⟨base, cap, g1, g2, g3, g4, g5⟩ := hR'.own n _ hn;have hown : ∀ b, Bl (ρ' n) = some b → w.heap.size ≤ b ∧ b < w'.heap.size := fun b hb => by
  have ho : Bd ρ' s'.h b := ⟨n, _, hn, hb⟩
  exact ⟨(hR'.may b ho).resolve_right id, hR'.lt ho⟩
 have hnew := hR.adopt hg d (.row sz es) (ρ' n) hown fun hV => by
  refine ⟨base, cap, by rw [Al]; exact g1, g2, g3, g4, fun hcap => ?_⟩;obtain ⟨b, vs', ty, fr, k1, k2, k3, k4, k5, k6⟩ := g5 hcap;refine ⟨b, vs', ty, fr, k1, k2, k3, k4, k5, fun i c hi => ?_⟩;rcases hx with hx | hx
  · obtain ⟨e1, _, _⟩ := Cf hx;rw [e1, Dl] at hR' k6;refine (k6 i c hi).mono (A0 fun b' c' ho hc' => ⟨fun hb' => ?_, hc'⟩);rcases hb' with ⟨m, z, hm1, hm2⟩ | hb'
    · by_cases hmd : m = d
      · subst hmd;rw [Al] at hm2;exact ho (.inl ⟨n, _, hn, hm2⟩)
      · rw [A3 hmd] at hm2;simp only [FS.seth, FS.kill, hmd, if_false] at hm1;obtain ⟨z', hz', _⟩ := Option.map_eq_some_iff.1 hm1;exact ho (.inr (.inl ⟨m, z', hz', hm2⟩))
    · exact ho (.inr (.inr hb'))
  · exact Fp (hx c (List.mem_of_getElem? hi)) (k6 i c hi)
 refine ⟨v, _, rfl, hnew.1, ?_⟩;simp only [Conc];exact ⟨by rw [Al]; exact hy.1, hy.2⟩
theorem Ao1 (x : PV) (p : Nat → Prop) : (∃ n, SV.pv x = SV.os n ∧ p n) = False := by simp
theorem Ajz (n : Nat) (q : Prop) : (∃ z, SV.os n = SV.pv (.sl true z []) ∧ q) = False := by simp
theorem Ati (z0 : Nat) (q : Prop) : (∃ z, SV.pv (.sl true z0 []) = SV.pv (.sl true z []) ∧ q) = q := propext ⟨fun ⟨_, _, h⟩ => h, fun h => ⟨z0, rfl, h⟩⟩
theorem Aao (h) : Gf h [] = [] := (rfl)
theorem Yd (h n l) : Gf h (n :: l) = (n, h n) :: Gf h l := (rfl)
theorem X4 : Br [] = [] := (rfl)
theorem X5 (x l) : Br (x :: l) = Lt x ++ Br l := (rfl)
theorem Aiv (n) : Lt (.os n) = [n] := (rfl)
theorem Aiu (x) : Lt (.pv x) = [] := (rfl)
attribute [go_sem] Ao1 Ajz Ati Aao Yd false_or or_false X4 X5 Aiv Aiu Aqd Adh Amu Apd Aqq Aob List.cons_append List.nil_append
end own
end Go.Proofs.Ytagpocgklmeoiaa.Fw
namespace Go.Proofs.Ytagpocgklmeoiaa.Fw
open Go.RowKit
variable {P : Program} {F : Fr} {N M : Nat} {ρ : Nat → Value} {s : FS} {a b : Act} {w w' : World} {V : View} {X : Frs}
def sh : Nat := 1000001
def gh : Nat := 1000000
theorem Aaq : gh = Ft := rfl
theorem Zx : sh = Ft + 1 := rfl
attribute [irreducible] sh gh
def FS.dn (s : FS) : FS := ⟨fun n => s.t (n + sh), s.h⟩
def FS.enter (s : FS) (args : List SV) : FS := ⟨fun n => if n < Ft then lk .dead n (Cn 0 args) else if n = gh then .pv (.i .i64 0) else s.t (n - sh), s.h⟩
def Nc : List Nat → List SV → List (Nat × SV)
 | p :: ps, x :: l => (p, x) :: Nc ps l
 | _, _ => []
def FS.round (s : FS) (ps : List Nat) (args : List SV) : FS := ⟨fun n => if n < Ft then lk (s.t (n + sh)) n (Nc ps args).reverse else if n = gh then .dead else s.t (n - sh), s.h⟩
def Gg (g : Int) : Option Code := if g = 0 then none else if g = 1 then some .ret else some (.exit (g - 2).toNat)
def E5 (fn : Nat) (tm : Array Value) (qs : Array Tmp) (as bd : Code) (D : Nat) (st : LoopState) (pe : Option Code) : Obj := .loop { state := st, pending := pe, fn, tmps := tm, params := qs, assign := as, body := bd, defers := D }
theorem Rq (w : World) (l : Nat) (o o' : Obj) : (w.putObj l o).putObj l o' = w.putObj l o' := by
 simp only [World.putObj, World.mk.injEq, and_true, true_and];apply Array.ext_getElem?;intro i;simp only [Array.getElem?_setIfInBounds, Array.size_setIfInBounds];by_cases h : l = i
 · simp [h]
 · simp [h]
theorem W9 {w : World} {l : Nat} {o : Obj} (h : w.heap[l]? = some o) : w.putObj l o = w := by
 have : w.heap.setIfInBounds l o = w.heap := by
  apply Array.ext_getElem?;intro i;simp only [Array.getElem?_setIfInBounds];by_cases e : l = i
  · subst e;obtain ⟨h1, h2⟩ := Array.getElem?_eq_some_iff.1 h;simp [h1, h2]
  · simp [e]
 unfold World.putObj;rw [this]
theorem RelR.turn {F1 F2 : Fr} {s' : FS} (h : RelR F1 M ρ s b w) (e0 : F2.w0 = F1.w0) (e1 : F2.M0 = F1.M0) (e2 : F2.hid = F1.hid) (eh : s'.h = s.h) (hs : a.tmps.size = N) (hd : a.defers = F2.defs) (ht : ∀ n, Conc (Ao w (F1.out ρ s.h)) ρ (s'.t n) (F2.val a n)) : RelR F2 N ρ s' a w := by
 have ho : F2.out ρ s.h = F1.out ρ s.h := by unfold Fr.out; rw [e2]
 refine ⟨⟨by rw [e0]; exact h.fr.os, by rw [e0]; exact h.fr.tape, by rw [e0]; exact h.fr.output, by rw [e0]; exact h.fr.size, by rw [e0, e1]; exact h.fr.block, by rw [e0, e1, e2]; exact h.fr.hid, by rw [e0, e1]; exact h.fr.tab⟩, by rw [eh, e0, e1]; exact h.may, by rw [eh, ho]; exact h.own, by rw [eh]; exact h.inj, by rw [eh, ho]; exact ht, hs, hd⟩
def Ds (F : Fr) (a : Act) (w0 : World) (B : Nat) (l : Nat) (o : LoopState → Option Code → Obj) (g : Int) : Fr :=
 ⟨w0.putObj l (o (if g = 0 then .ready else .done) (Gg g)), fun b => F.M0 b ∨ (F.w0.heap.size ≤ b ∧ b < B), F.hid, fun n => if n = gh then .int .i64 g else F.val a (n - sh), []⟩
theorem Qo (F a w0 B l o g) : (Ds F a w0 B l o g).val b gh = .int .i64 g := by
 unfold Fr.val;rw [if_neg (by have := Aaq; omega)];simp only [Ds, if_true]
theorem Vs (F a w0 B l o g) (n : Nat) : (Ds F a w0 B l o g).val b (n + sh) = F.val a n := by
 have h1 := Aaq;have h2 := Zx;rw [Fr.val, if_neg (by omega)];simp only [Ds];rw [if_neg (by omega), Nat.add_sub_cancel]
theorem An5 (F a w0 B l o g g') {n : Nat} (h : n ≠ gh) : (Ds F a w0 B l o g').val b n = (Ds F a w0 B l o g).val b n := by
 unfold Fr.val;split
 · rfl
 · simp only [Ds];rw [if_neg h, if_neg h]
structure ItCtx (P : Program) (N : Nat) (ps : List Nat) (ca cb : C) (l : Nat) (XI : Frs) : Prop where
 ctx : ∃ (F : Fr) (a : Act) (w0 : World) (B fn D : Nat) (qs : Array Tmp) (as bd : Code),
  (XI = fun F' => ∃ g : Int, 0 ≤ g ∧ F' = Ds F a w0 B l (E5 fn a.tmps qs as bd D) g) ∧ Bc P N as = some ca ∧ Bc P N bd = some cb ∧ qs.toList = ps ∧ (∀ p ∈ ps, p < N ∧ p < Ft) ∧
  a.tmps.size = N ∧ B ≤ l ∧ l < w0.heap.size ∧ ¬ F.M0 l
theorem Afh (ps : List (Nat × Value)) : ∀ (t : Array Value), (ps.foldl (fun t (p, v) => t.setIfInBounds p v) t).size = t.size := by
 induction ps with
 | nil => intro t; rfl
 | cons p ps ih => intro t; rw [List.foldl_cons, ih]; simp
theorem Xc {x0 : SV} : ∀ {ps : List Nat} {args : List SV} {vs : List Value} {t : Array Value} {n : Nat}, (∀ p ∈ ps, p < t.size) → ConcL V ρ args vs → ps.length = vs.length → ∀ (l : List (Nat × SV)),
 Conc V ρ (lk x0 n l) (t.getD n undef) → Conc V ρ (lk x0 n ((Nc ps args).reverse ++ l)) (((ps.zip vs).foldl (fun t (p, v) => t.setIfInBounds p v) t).getD n undef)
 | [], args, vs, t, n, _, hc, hl, l, h => by simpa [Nc] using h
 | p :: ps, args, vs, t, n, hp, hc, hl, l, h => by
   cases args with
   | nil => simp only [ConcL] at hc; subst hc; simp at hl
   | cons x args =>
     simp only [ConcL] at hc;obtain ⟨v, us, rfl, h1, h2⟩ := hc;have := Xc (x0 := x0) (ps := ps) (args := args) (vs := us) (t := t.setIfInBounds p v) (n := n) (fun q hq => by simpa using hp q (List.mem_cons_of_mem _ hq)) h2 (by simpa using hl) ((p, x) :: l) (by
      simp only [lk];rw [Array.getD_eq_getD_getElem?, Array.getElem?_setIfInBounds];by_cases e : n = p
      · subst e; simp [hp n List.mem_cons_self, h1]
      · rw [if_neg e, if_neg (Ne.symm e)];rw [Array.getD_eq_getD_getElem?] at h; exact h)
     simpa [Nc] using this
theorem Lk : ∀ {l : List SV} {vs : List Value}, ConcL V ρ l vs → vs.length = l.length
 | [], vs, h => by simp only [ConcL] at h; subst h; rfl
 | x :: l, vs, h => by
   simp only [ConcL] at h;obtain ⟨v, us, rfl, _, h⟩ := h;simp [Lk h]
def asQ (K : FS → Prop) : Bx
 | .normal, s => K s
 | _, _ => False
def Akr (K : KK) : Bx
 | .normal, s => K (.pv (.b true)) [.set s.dn.t s.dn.h]
 | .ret, s => K (.pv (.b false)) [.set (s.dn.set gh (.pv (.i .i64 1))).t s.dn.h]
 | .exit k, s => K (.pv (.b false)) [.set (s.dn.set gh (.pv (.i .i64 (k + 2 : Nat)))).t s.dn.h]
def Aan (s : FS) : Option SV → FS
 | some y => s.set gh y
 | none => s
theorem Z0 {FB : Fr} {s2 : FS} {a3 : Act} {F : Fr} {a : Act} {w0 : World} {B l : Nat} {o : LoopState → Option Code → Obj} {g g' : Int} {x : Option SV} (h : RelR FB N ρ s2 a3 w)
 (e0 : FB.w0 = w0.putObj l (o (if g' = 0 then .ready else .done) (Gg g'))) (e1 : FB.M0 = (Ds F a w0 B l o g).M0) (e2 : FB.hid = F.hid) (e3 : FB.x = fun n => if sh ≤ n then (Ds F a w0 B l o g).val b (n - sh) else undef)
 (hb : b.tmps.size = M) (hbd : b.defers = []) (hx : (g' = g ∧ x = none) ∨ x = some (.pv (.i .i64 g'))) :
 RelR (Ds F a w0 B l o g') M ρ (Aan s2.dn x) b w := by
 have ho : (Ds F a w0 B l o g').out ρ s2.h = FB.out ρ s2.h := by
  unfold Fr.out;rw [e2]; rfl
 have hh : ∀ n, (Aan s2.dn x).h n = s2.h n := fun n => by cases x <;> rfl
 have hH : (Aan s2.dn x).h = s2.h := funext hh;refine ⟨⟨?_, ?_, ?_, ?_, ?_, ?_, ?_⟩, ?_, ?_, ?_, fun n => ?_, hb, hbd⟩
 · rw [h.fr.os, e0]; rfl
 · rw [h.fr.tape, e0]; rfl
 · rw [h.fr.output, e0]; rfl
 · have := h.fr.size; rw [e0] at this; exact this
 · have := h.fr.block; rw [e0, e1] at this; exact this
 · have := h.fr.hid; rw [e0, e1, e2] at this; exact this
 · have := h.fr.tab; rw [e0, e1] at this; exact this
 · rw [hH]; have := h.may; rw [e0, e1] at this; exact this
 · rw [hH, ho]; exact h.own
 · rw [hH]; exact h.inj
 · rw [hH, ho];have key : n ≠ gh ∨ x = none → Conc (Ao w (FB.out ρ s2.h)) ρ (s2.dn.t n) ((Ds F a w0 B l o g').val b n) := fun hn => by
    have := h.tmps (n + sh);have hge : ¬ n + sh < Ft := by have := Zx; omega
    rw [Fr.val, if_neg hge, e3] at this;simp only [Nat.add_sub_cancel, Nat.le_add_left, if_true] at this;have hv : (Ds F a w0 B l o g').val b n = (Ds F a w0 B l o g).val b n := by
     by_cases e : n = gh
     · rcases hn with hn | hn
       · exact absurd e hn
       · rcases hx with ⟨rfl, _⟩ | hx
         · rfl
         · rw [hn] at hx; cases hx
     · exact An5 _ _ _ _ _ _ _ _ e
    rw [hv]; exact this
   cases x with
   | none => exact key (.inr rfl)
   | some y =>
     simp only [Aan, FS.set];by_cases hn : n = gh
     · subst hn;rw [if_pos rfl];rcases hx with ⟨_, hx⟩ | hx
       · cases hx
       · cases hx;rw [Qo];simp only [Conc];exact .i _ _
     · rw [if_neg hn];exact key (.inl hn)
theorem Q0 (hm : P.follows .mixedOrders = true) {ps : List Nat} {ca cb : C} {l : Nat} {XI : Frs} (hc : ItCtx P N ps ca cb l XI) {args : List SV} {K : KK} (hg : s.t gh = .pv (.i .i64 0)) (hlen : args.length = ps.length)
 (hrun : ∀ XA XB, sx (Gp P (some l) XA N) ca (asQ fun s1 => sx (Gp P (some l) XB N) cb (Akr K) s1) (s.round ps args)) : (Gp P none XI M).yld l args K s := by
 obtain ⟨F, a, w0, B, fn, D, qs, as, bd, rfl, hca, hcb, hqs, hps, hsz, hBl, hl0, hM⟩ := hc;show Alp P _ M l args K s;rintro F' ρ b w ⟨g, hg0, rfl⟩ hR vs hvs;have eg : g = 0 := by
  have := hR.tmps gh;rw [hg, Qo] at this;simp only [Conc] at this;generalize hv : Value.int .i64 g = v at this;cases this;cases hv; rfl
 subst eg;have hO : ∀ st pe, ∃ r : Loop, E5 fn a.tmps qs as bd D st pe = .loop r ∧ r = { state := st, pending := pe, fn, tmps := a.tmps, params := qs, assign := as, body := bd, defers := D } := fun st pe => ⟨_, rfl, rfl⟩
 have hlM : ¬ (F.M0 l ∨ (F.w0.heap.size ≤ l ∧ l < B)) := fun h => h.elim hM fun h => by omega
 have hlw : l < (w0.putObj l (E5 fn a.tmps qs as bd D .ready none)).heap.size := by simpa using hl0
 have hrec : w.heap[l]? = some (E5 fn a.tmps qs as bd D .ready none) := by
  rw [hR.fr.block l hlw hlM];exact World.putObj_heap_same hl0
 have hy := run_yield (P := P) (args := (⟨vs⟩ : Array Value)) hrec (by
  have := Lk hvs;show vs.length = qs.size;rw [this, hlen, ← hqs]; simp)
 refine ⟨fn, _, as, bd, hy, roundIn_of_wpIn (F := Gd none) trivial ?_⟩;simp only
 let FA : Fr := ⟨w0.putObj l (E5 fn a.tmps qs as bd D .ready none), fun b => F.M0 b ∨ (F.w0.heap.size ≤ b ∧ b < B), F.hid, fun n => if sh ≤ n then (Ds F a w0 B l (E5 fn a.tmps qs as bd D) 0).val b (n - sh) else undef, []⟩
 have hRA : RelR FA N ρ (s.round ps args) { tmps := (qs.zip (⟨vs⟩ : Array Value)).foldl (fun t (p, v) => t.setIfInBounds p v) a.tmps, defers := [] } w := by
  refine RelR.turn hR rfl rfl rfl rfl ?_ rfl fun n => ?_;rotate_left
  · have e : (qs.zip (⟨vs⟩ : Array Value)).foldl (fun t (p, v) => t.setIfInBounds p v) a.tmps = (ps.zip vs).foldl (fun t (p, v) => t.setIfInBounds p v) a.tmps := by
     rw [← Array.foldl_toList, Array.toList_zip, hqs]
    unfold Fr.val;simp only [FS.round];by_cases h1 : n < Ft
    · rw [if_pos h1, if_pos h1, e];have := Xc (x0 := s.t (n + sh)) (ps := ps) (t := a.tmps) (n := n) (fun p hp => by rw [hsz]; exact (hps p hp).1) hvs (by rw [Lk hvs, hlen]) [] (by
       simp only [lk];have := hR.tmps (n + sh);rw [Vs, Fr.val_lt h1] at this;exact this)
      rw [List.append_nil] at this;exact this
    · rw [if_neg h1, if_neg h1];by_cases h2 : n = gh
      · rw [if_pos h2]; simp only [Conc]
      · rw [if_neg h2];have h3 : sh ≤ n := by have := Aaq; have := Zx; omega
        have e4 : FA.x n = (Ds F a w0 B l (E5 fn a.tmps qs as bd D) 0).val b (n - sh) := by
         show (if sh ≤ n then _ else undef) = _;rw [if_pos h3]
        rw [e4];exact hR.tmps (n - sh)
  · show ((qs.zip (⟨vs⟩ : Array Value)).foldl (fun t (p, v) => t.setIfInBounds p v) a.tmps).size = N;rw [← Array.foldl_toList, Afh]; exact hsz
 refine wpIn_mono (J4 (r := some l) (X := fun F => F = FA) hm hca (hrun _ (fun F => F = { FA with w0 := FA.w0.putObj l (E5 fn a.tmps qs as bd D .busy none) })) ⟨FA, rfl, ρ, hRA⟩) fun e a1 w1 he => ?_;cases e with
 | normal =>
   obtain ⟨s1, ⟨_, rfl, ρ1, hR1⟩, hrun2⟩ := he;have hrec1 : w1.heap[l]? = some (E5 fn a.tmps qs as bd D .ready none) := by
    rw [hR1.fr.block l hlw hlM];exact World.putObj_heap_same hl0
   refine ⟨_, run_beginRound hrec1 rfl, ?_⟩;have hR2 := hR1.obj (E5 fn a.tmps qs as bd D .busy none) hrec1 rfl hlw hlM;refine wpIn_mono (J4 (r := some l) (X := fun F => F = { FA with w0 := FA.w0.putObj l (E5 fn a.tmps qs as bd D .busy none) }) hm hcb hrun2 ⟨_, rfl, ρ1, hR2⟩) fun e a3 w3 he => ?_;have fin : ∀ (s2 : FS) (ρ2 : Nat → Value) (g' : Int) (x : Option SV) (jump : Option Code), RelR { FA with w0 := FA.w0.putObj l (E5 fn a.tmps qs as bd D .busy none) } N ρ2 s2 a3 w3 → jump = Gg g' → (jump.isNone = true ↔ g' = 0) → ((g' = 0 ∧ x = none) ∨ x = some (.pv (.i .i64 g'))) → 0 ≤ g' →
    K (.pv (.b jump.isNone)) [.set (Aan s2.dn x).t s2.dn.h] →
    ∃ v w', (Instr.endRound l jump).run P w3 = .ok v w' ∧ ∃ v' x u F' ρ', Ending.returned v = .returned v' ∧ K x u ∧ (∃ g : Int, 0 ≤ g ∧ F' = Ds F a w0 B l (E5 fn a.tmps qs as bd D) g) ∧ RelR F' M ρ' (s.hup u) b w' ∧ Conc (vw F' w' ρ' (s.hup u)) ρ' x v' := by
    intro s2 ρ2 g' x jump hR3 hj hji hx hg' hK;have hrec3 : w3.heap[l]? = some (E5 fn a.tmps qs as bd D .busy none) := by
     rw [hR3.fr.block l (by simpa [FA] using hlw) hlM];exact World.putObj_heap_same hlw
    have hst : (if jump.isNone then LoopState.ready else .done) = (if g' = 0 then .ready else .done) := by
     by_cases h : g' = 0
     · rw [if_pos h, if_pos (hji.2 h)]
     · rw [if_neg h, if_neg (fun e => h (hji.1 e))]
    refine ⟨_, _, run_endRound jump hrec3, _, .pv (.b jump.isNone), _, Ds F a w0 B l (E5 fn a.tmps qs as bd D) g', ρ2, rfl, hK, ⟨g', hg', rfl⟩, ?_, ?_⟩
    · have hR4 := hR3.obj (E5 fn a.tmps qs as bd D (if g' = 0 then .ready else .done) (Gg g')) hrec3 rfl (by simpa [FA] using hlw) hlM;have hb := Z0 (M := M) (b := b) (F := F) (a := a) (w0 := w0) (B := B) (l := l) (o := E5 fn a.tmps qs as bd D) (g := 0) (g' := g') (x := x) hR4 (by simp only [FA, Rq]) rfl rfl rfl hR.size hR.defers hx;have ew : w3.putObj l (.loop { state := if jump.isNone then .ready else .done, pending := jump, fn, tmps := a.tmps, params := qs, assign := as, body := bd, defers := D }) = w3.putObj l (E5 fn a.tmps qs as bd D (if g' = 0 then .ready else .done) (Gg g')) := by
       rw [hst, hj]; rfl
      show RelR _ M ρ2 (s.hup [.set _ _]) b (w3.putObj l (.loop { state := if jump.isNone then .ready else .done, pending := jump, fn, tmps := a.tmps, params := qs, assign := as, body := bd, defers := D }));rw [ew];have eh : s.hup [.set (Aan s2.dn x).t s2.dn.h] = (Aan s2.dn x) := by cases x <;> rfl
      rw [eh]; exact hb
    · simp only [Conc]; exact .b _
   cases e with
   | normal =>
     obtain ⟨s2, ⟨_, rfl, ρ2, hR3⟩, hK⟩ := he;exact fin s2 ρ2 0 none none hR3 rfl (by simp) (.inl ⟨rfl, rfl⟩) (by omega) hK
   | ret =>
     obtain ⟨s2, ⟨_, rfl, ρ2, hR3⟩, hK⟩ := he;exact fin s2 ρ2 1 (some (.pv (.i .i64 1))) (some .ret) hR3 rfl (by simp) (.inr rfl) (by omega) hK
   | exit k =>
     obtain ⟨s2, ⟨_, rfl, ρ2, hR3⟩, hK⟩ := he;refine fin s2 ρ2 ((k + 2 : Nat) : Int) (some (.pv (.i .i64 ((k + 2 : Nat) : Int)))) (some (.exit k)) hR3 ?_ (by simp; omega) (.inr rfl) (by omega) hK;unfold Gg;rw [if_neg (by omega), if_neg (by omega)];congr 2; omega
   | goto _ => exact he.elim
   | panic _ => exact he.elim
   | outgrown => exact he.elim
 | exit id => obtain ⟨_, _, h⟩ := he; exact h.elim
 | ret => obtain ⟨_, _, h⟩ := he; exact h.elim
 | goto _ => exact he.elim
 | panic _ => exact he.elim
 | outgrown => exact he.elim
end Go.Proofs.Ytagpocgklmeoiaa.Fw
namespace Go.Proofs.Ytagpocgklmeoiaa.Fw
open Go.RowKit
variable {P : Program} {F : Fr} {N M : Nat} {ρ : Nat → Value} {s : FS} {a b : Act} {w w' : World} {V : View} {X : Frs}
def itK (Q : Bx) (s : FS) : SV → Prop
 | .pv (.i _ g) => if g = 0 then Q .normal s.dn else if g = 1 then Q .ret s.dn else Q (.exit (g - 2).toNat) s.dn
 | _ => False
def itQ (Q : Bx) : Bx
 | .normal, s => itK Q s (s.t gh)
 | .ret, s => itK Q s (s.t gh)
 | _, _ => False
theorem X8 (F a w0 B l o g) (h : Nat → Option Blk) : (Ds F a w0 B l o g).out ρ h = F.out ρ h := rfl
theorem Lg (F a w0 B l o g) (b) : (Ds F a w0 B l o g).M0 b = (F.M0 b ∨ (F.w0.heap.size ≤ b ∧ b < B)) := rfl
theorem An4 (F a w0 B l o) (h : w0.heap[l]? = some (o .ready none)) : (Ds F a w0 B l o 0).w0 = w0 := by
 show w0.putObj l (o (if (0 : Int) = 0 then .ready else .done) (Gg 0)) = w0;exact W9 h
theorem Rn (hm : P.follows .mixedOrders = true) {F0 : Fr} {f : Nat} {cap : List SV} {ps : List Nat} {ca cb cf : C} {Q : Bx} (hf : A8 P f = some (M, [], cf)) (hlen : cap.length + 1 ≤ M)
 (hrun : ∀ l XI, ItCtx P N ps ca cb l XI → sx (Gp P none XI M) cf (itQ Q) (s.enter (.fn (.yield l) [] :: cap))) : (Gp P none (Desc F0) N).rng f cap ps ca cb Q s := by
 show Adc P none (Desc F0) N f cap ps ca cb Q s;intro as bd g qs hca hcb hqs hps F ρ a w hd hR hg;obtain ⟨fn, code, h1, h2, h3, h4, h5, h6⟩ := Qt hf;have hMb := Nt hf;subst h4;simp only [Conc] at hg;obtain ⟨cv, hgv, hcap⟩ := hg;refine wpIn_rangeFunc fun fn' _ => ?_;obtain ⟨O, hO⟩ : ∃ O, O = E5 fn' a.tmps qs as bd w.heap.size := ⟨_, rfl⟩
 obtain ⟨W1, hW1⟩ : ∃ W1, (w.alloc (.deferred (some []))).alloc (O .ready none) = W1 := ⟨_, rfl⟩
 have hl1 : W1.heap[w.heap.size + 1]? = some (O .ready none) := by
  rw [← hW1]; have := World.alloc_heap_new (w.alloc (.deferred (some []))) (O .ready none); rwa [World.size_alloc] at this
 have hD1 : W1.heap[w.heap.size]? = some (.deferred (some [])) := by
  rw [← hW1]; exact (Below.heap_alloc _ _ _ (by simp)).trans (World.alloc_heap_new w _)
 have hbel : Below w.heap.size w W1 := by
  rw [← hW1]; exact (((Below.refl _ w).alloc (Nat.le_refl _) _).alloc (by simp) _)
 have hsz1 : w.heap.size + 1 < W1.heap.size := (Array.getElem?_eq_some_iff.1 hl1).1;have hgrew := Grew.of_below hbel;have hR1 := hR.grew hgrew;have hMw : ∀ b, F.M0 b → b < w.heap.size := fun b hb => Nat.lt_of_lt_of_le (hd.m0 b hb) hR.fr.size;have hent : N6 P f := Cb hf;refine ⟨w.heap.size + 1, [{ target := .collected w.heap.size, args := #[] }], W1, { target := .fn (.func f) ⟨cv⟩, args := #[.func (.yield (w.heap.size + 1)) #[] #[]] }, W1, f,
  (#[Value.func (.yield (w.heap.size + 1)) #[] #[]] : Array Value) ++ ⟨cv⟩, W1, ?_, ?_, fun _ _ => trivial, ?_, fun h => (nomatch h), ?_⟩
 · rw [← hW1, hO]; exact run_enterLoop_outer _ _ _ _ _
 · simp only [resolve, hgv];simp [go_sem]
 · simp only [invoke];exact M6 hent
 have hctx : ItCtx P N ps ca cb (w.heap.size + 1) (fun F' => ∃ g : Int, 0 ≤ g ∧ F' = Ds F a W1 w.heap.size (w.heap.size + 1) O g) :=
  ⟨F, a, W1, w.heap.size, fn', w.heap.size, qs, as, bd, by rw [hO], hca, hcb, hqs, hps, hR.size, by omega, hsz1, fun h => by have := hMw _ h; omega⟩
 have hl0 : F.w0.heap.size ≤ w.heap.size := hR.fr.size;have hRI : RelR (Ds F a W1 w.heap.size (w.heap.size + 1) O 0) fn.ntmps ρ (s.enter (.fn (.yield (w.heap.size + 1)) [] :: cap)) { tmps := ((#[Value.func (.yield (w.heap.size + 1)) #[] #[]] : Array Value) ++ (⟨cv⟩ : Array Value)) ++ Array.replicate (fn.ntmps - ((#[Value.func (.yield (w.heap.size + 1)) #[] #[]] : Array Value) ++ (⟨cv⟩ : Array Value)).size) undef, defers := [] } W1 := by
  have hcl := Lk hcap;refine ⟨?_, fun b hb => ?_, ?_, hR1.inj, fun n => ?_, by simp; omega, rfl⟩
  · have e := An4 F a W1 w.heap.size (w.heap.size + 1) O hl1;refine ⟨by rw [e], by rw [e], by rw [e], by rw [e]; exact Nat.le_refl _, fun b _ _ => by rw [e], fun b hb => ?_, ⟨by rw [e]; exact hR1.tabW, fun p hp hm => by
     rw [Lg] at hm;rcases hm with hm | hm
     · exact hR.fr.tab.2 p hp hm
     · have := Eh (hR.fr.tab.1 p hp); omega⟩⟩
    rw [e, Lg];have := hR.fr.hid b hb;exact ⟨by omega, fun h => h.elim this.2 fun h => by omega⟩
  · rw [Lg];rcases hR.may b hb with h | h
    · exact .inr (.inr ⟨h, hR.lt hb⟩)
    · exact .inr (.inl h)
  · rw [X8]; exact hR1.own
  · rw [X8];show Conc _ ρ (if n < Ft then _ else if n = gh then _ else _) _;by_cases hn : n < Ft
    · rw [if_pos hn, Fr.val_lt hn];have hcv : ConcL (vw F W1 ρ s) ρ (.fn (.yield (w.heap.size + 1)) [] :: cap) (.func (.yield (w.heap.size + 1)) #[] #[] :: cv) := by
       simp only [ConcL];exact ⟨_, _, rfl, by simp only [Conc, ConcL]; exact ⟨[], rfl, rfl⟩, hcap.mono (hR.le_of_grew hgrew)⟩
      have := Fu 0 n hcv;simp only [Nat.zero_le, if_true, Nat.sub_zero] at this;have he : (((#[Value.func (.yield (w.heap.size + 1)) #[] #[]] : Array Value) ++ (⟨cv⟩ : Array Value)) ++ Array.replicate (fn.ntmps - ((#[Value.func (.yield (w.heap.size + 1)) #[] #[]] : Array Value) ++ (⟨cv⟩ : Array Value)).size) undef).getD n undef = ((Value.func (.yield (w.heap.size + 1)) #[] #[] :: cv)[n]?).getD undef := by
       have ea : ((#[Value.func (.yield (w.heap.size + 1)) #[] #[]] : Array Value) ++ (⟨cv⟩ : Array Value)) = (⟨.func (.yield (w.heap.size + 1)) #[] #[] :: cv⟩ : Array Value) := Array.toList_inj.1 (by simp);rw [ea, Array.getD_eq_getD_getElem?];by_cases hn : n < (Value.func (.yield (w.heap.size + 1)) #[] #[] :: cv).length
       · rw [Array.getElem?_append_left (by simpa using hn)]; simp
       · rw [Array.getElem?_append_right (by simpa using hn)];rw [List.getElem?_eq_none (by omega)];simp only [Array.getElem?_replicate, Option.getD_none];split <;> rfl
      rw [he]; exact this
    · rw [if_neg hn];by_cases h2 : n = gh
      · rw [if_pos h2, h2, Qo]; simp only [Conc]; exact .i _ _
      · rw [if_neg h2];have h3 : n = (n - sh) + sh := by have := Aaq; have := Zx; omega
        have e4 : (Ds F a W1 w.heap.size (w.heap.size + 1) O 0).val { tmps := ((#[Value.func (.yield (w.heap.size + 1)) #[] #[]] : Array Value) ++ (⟨cv⟩ : Array Value)) ++ Array.replicate (fn.ntmps - ((#[Value.func (.yield (w.heap.size + 1)) #[] #[]] : Array Value) ++ (⟨cv⟩ : Array Value)).size) undef, defers := [] } n = F.val a (n - sh) := by
         conv => lhs; rw [h3]
         exact Vs _ _ _ _ _ _ _ _
        rw [e4];exact hR1.tmps (n - sh)
 refine callsIn_of_wp (F := Gd none) (n := 0 - 1) h1 h3 trivial (wpIn_mono (n := 0 - 1) (J4 hm h6 (hrun _ _ hctx) ⟨_, ⟨0, by omega, rfl⟩, ρ, hRI⟩) fun e a' w' he => ?_);have hres : ∀ (F' : Fr) (ρ' : Nat → Value) (s' : FS), RelR F' fn.ntmps ρ' s' a' w' → ∃ v, (results fn a'.tmps).run P w' = .ok v w' := fun F' ρ' s' hR' => by
  obtain ⟨l, v, _, _, k3⟩ := Pj (P := P) (K := fun _ => True) hR' h5 trivial;exact ⟨v, k3⟩
 have fin : ∀ (s' : FS), RelX (fun F' => ∃ g : Int, 0 ≤ g ∧ F' = Ds F a W1 w.heap.size (w.heap.size + 1) O g) fn.ntmps s' a' w' → itK Q s' (s'.t gh) → a'.defers = [] ∧ ∃ v, (results fn a'.tmps).run P w' = .ok v w' ∧
  rangePost (Gd none) 0 P (w.heap.size + 1) (N5 (Desc F0) N Q) { a with defers := [{ target := .collected w.heap.size, args := #[] }] ++ a.defers } (.returned v) w' := by
  rintro s' ⟨_, ⟨g, hg0, rfl⟩, ρ', hR'⟩ hq;obtain ⟨v, hv⟩ := hres _ _ _ hR';refine ⟨hR'.defers, v, hv, ?_⟩;have hlM : ¬ (Ds F a W1 w.heap.size (w.heap.size + 1) O g).M0 (w.heap.size + 1) := by
   rw [Lg];rintro (h | h)
   · have := hMw _ h; omega
   · omega
  have hlt : w.heap.size + 1 < (Ds F a W1 w.heap.size (w.heap.size + 1) O g).w0.heap.size := by
   show _ < (W1.putObj _ _).heap.size;rw [World.putObj_size]; exact hsz1
  have hrec : w'.heap[w.heap.size + 1]? = some (O (if g = 0 then .ready else .done) (Gg g)) := by
   rw [hR'.fr.block _ hlt hlM];exact World.putObj_heap_same hsz1
  have hend := run_endLoop (P := P) (w := w') (l := w.heap.size + 1) (r := { state := if g = 0 then .ready else .done, pending := Gg g, fn := fn', tmps := a.tmps, params := qs, assign := as, body := bd, defers := w.heap.size }) (by rw [hrec, hO]; rfl) (by simp only; split <;> simp);refine ⟨Gg g, _, hend, ?_⟩;obtain ⟨oe, hoe⟩ : ∃ oe : Obj, oe = .loop { state := .exhausted, pending := Gg g, fn := fn', tmps := a.tmps, params := qs, assign := as, body := bd, defers := w.heap.size } := ⟨_, rfl⟩
  have hR2 := hR'.obj oe hrec (by rw [hO]; rfl) hlt hlM;have ew0 : (Ds F a W1 w.heap.size (w.heap.size + 1) O g).w0.putObj (w.heap.size + 1) oe = W1.putObj (w.heap.size + 1) oe := Rq _ _ _ _;have hR3 : RelR ⟨W1.putObj (w.heap.size + 1) oe, (Ds F a W1 w.heap.size (w.heap.size + 1) O g).M0, F.hid, F.x, [{ target := .collected w.heap.size, args := #[] }] ++ F.defs⟩ N ρ' s'.dn { a with defers := [{ target := .collected w.heap.size, args := #[] }] ++ a.defers } (w'.putObj (w.heap.size + 1) oe) := by
   refine RelR.turn hR2 ew0.symm rfl rfl rfl hR.size (by show _ ++ a.defers = _ ++ F.defs; rw [hR.defers]) fun n => ?_;have := hR2.tmps (n + sh);have e5 : ({ Ds F a W1 w.heap.size (w.heap.size + 1) O g with w0 := (Ds F a W1 w.heap.size (w.heap.size + 1) O g).w0.putObj (w.heap.size + 1) oe } : Fr).val a' (n + sh) = F.val a n := Vs F a W1 w.heap.size (w.heap.size + 1) O g n;rw [e5] at this;exact this
  have hdesc : Desc F0 ⟨W1.putObj (w.heap.size + 1) oe, (Ds F a W1 w.heap.size (w.heap.size + 1) O g).M0, F.hid, F.x, [{ target := .collected w.heap.size, args := #[] }] ++ F.defs⟩ := by
   have hb := hd.base;have hW : ∀ b, b < w.heap.size → (W1.putObj (w.heap.size + 1) oe).heap[b]? = w.heap[b]? := fun b hlt => by
    rw [World.putObj_heap_other (by omega)]; exact hgrew.block b hlt
   have hs1 : (W1.putObj (w.heap.size + 1) oe).heap.size = W1.heap.size := World.putObj_size;refine ⟨⟨?_, ?_, ?_, ?_, fun b hlt hm => ?_, hb.hid, hb.tab⟩, fun b h => ?_, fun b h => ?_, hd.hid, hd.x, ⟨w.heap.size, rfl, ?_, ?_, ?_, ?_, ?_⟩, ?_⟩
   · exact (hgrew.os.trans hR.fr.os).trans hb.os
   · exact (hgrew.tape.trans hR.fr.tape).trans hb.tape
   · exact (hgrew.output.trans hR.fr.output).trans hb.output
   · show _ ≤ (W1.putObj (w.heap.size + 1) oe).heap.size;rw [hs1]; have := hb.size; omega
   · show (W1.putObj (w.heap.size + 1) oe).heap[b]? = _;have h8 := hb.size;rw [hW b (by omega), hR.fr.block b (by omega) fun e => ?_]
     · exact hb.block b hlt hm
     · rcases hd.may b (.inr e) with h9 | h9
       · omega
       · exact hm h9
   · show b < (W1.putObj (w.heap.size + 1) oe).heap.size;rw [hs1];rcases h with h | h
     · have := hMw b h; omega
     · omega
   · have h' : (W1.putObj (w.heap.size + 1) oe).heap.size ≤ b ∨ (F.M0 b ∨ (F.w0.heap.size ≤ b ∧ b < w.heap.size)) := h;rw [hs1] at h';have h8 := hb.size;rcases h' with h | h | h
     · exact .inl (by omega)
     · exact hd.may b (.inr h)
     · exact .inl (by omega)
   · have := hb.size; omega
   · show _ < (W1.putObj (w.heap.size + 1) oe).heap.size;rw [hs1]; omega
   · rw [Lg];rintro (h | h)
     · have := hMw _ h; omega
     · omega
   · show (W1.putObj (w.heap.size + 1) oe).heap[w.heap.size]? = _;rw [World.putObj_heap_other (by omega)]; exact hD1
   · have hmk := hd.marks;intro e he;clear hR3 hR2 hR hR1 hRI hR';generalize F.defs = ds at hmk he
     induction ds with
     | nil => cases he
     | cons d ds ih =>
       obtain ⟨⟨E, rfl, _, k2, _⟩, hmk⟩ := hmk;rcases List.mem_cons.1 he with rfl | he
       · intro e;simp only [Target.collected.injEq] at e;omega
       · exact ih hmk he
   · have hbl := hR.fr.block;have key : ∀ (FF : Fr), FF.w0 = W1.putObj (w.heap.size + 1) oe → FF.M0 = (Ds F a W1 w.heap.size (w.heap.size + 1) O g).M0 → ∀ ds, Zc F0 F ds → Zc F0 FF ds := fun FF f1 f2 ds hmk => by
      induction ds with
      | nil => trivial
      | cons d ds ih =>
        obtain ⟨⟨E, rfl, k1, k2, k3, k4, k5⟩, hmk⟩ := hmk;refine ⟨⟨E, rfl, k1, ?_, ?_, ?_, k5⟩, ih hmk⟩
        · rw [f1, hs1]; omega
        · rw [f2, Lg];rintro (h | h)
          · exact k3 h
          · omega
        · rw [f1, hW E (by omega), hbl E k2 k3]; exact k4
     exact key ⟨W1.putObj (w.heap.size + 1) oe, (Ds F a W1 w.heap.size (w.heap.size + 1) O g).M0, F.hid, F.x, [{ target := .collected w.heap.size, args := #[] }] ++ F.defs⟩ rfl rfl _ hd.marks
  have hghv : ∃ k, s'.t gh = .pv (.i k g) := by
   have := hR'.tmps gh;rw [Qo] at this;generalize s'.t gh = z at hq this;unfold itK at hq;split at hq
   · rename_i k g';simp only [Conc] at this;cases this;exact ⟨_, rfl⟩
   · exact hq.elim
  obtain ⟨k, hk⟩ := hghv;rw [hk] at hq;simp only [itK] at hq;rw [← hoe];have hrel : RelX (Desc F0) N s'.dn { a with defers := [{ target := .collected w.heap.size, args := #[] }] ++ a.defers } (w'.putObj (w.heap.size + 1) oe) := ⟨_, hdesc, ρ', hR3⟩
  unfold Gg;by_cases e0 : g = 0
  · rw [if_pos e0] at hq ⊢;exact ⟨s'.dn, hrel, hq⟩
  · rw [if_neg e0] at hq ⊢;by_cases e1 : g = 1
    · rw [if_pos e1] at hq ⊢;exact wpIn_ret ⟨s'.dn, hrel, hq⟩
    · rw [if_neg e1] at hq ⊢;exact wpIn_exit ⟨s'.dn, hrel, hq⟩
 cases e with
 | normal => obtain ⟨s', h, hq⟩ := he; exact fin s' h hq
 | ret => obtain ⟨s', h, hq⟩ := he; exact fin s' h hq
 | exit id => obtain ⟨_, _, h⟩ := he; exact h.elim
 | goto _ => exact he.elim
 | panic _ => exact he.elim
 | outgrown => exact he.elim
end Go.Proofs.Ytagpocgklmeoiaa.Fw
namespace Go.Proofs.Ytagpocgklmeoiaa.Fw
open Go.RowKit
def shT : List (Nat × SV) → List (Nat × SV)
 | [] => []
 | (j, x) :: l => (j + sh, x) :: shT l
def dnT : List (Nat × SV) → List (Nat × SV)
 | [] => []
 | (j, x) :: l => if sh ≤ j then (j - sh, x) :: dnT l else dnT l
def Md : List (Nat × SV) → List (Nat × SV)
 | [] => []
 | (j, x) :: l => if j < Ft then (j, x) :: Md l else Md l
theorem Le {α : Type} (d : α) (n : Nat) : ∀ (l m : List (Nat × α)), lk d n (l ++ m) = lk (lk d n m) n l
 | [], m => rfl
 | (j, x) :: l, m => by simp only [List.cons_append, lk, Le d n l m]
theorem Qm {α : Type} (d : α) (n : Nat) : ∀ (l : List (Nat × α)), (∀ p ∈ l, p.1 ≠ n) → lk d n l = d
 | [], _ => rfl
 | (j, x) :: l, h => by
   simp only [lk];rw [if_neg (fun e => h (j, x) List.mem_cons_self e.symm)];exact Qm d n l fun p hp => h p (List.mem_cons_of_mem _ hp)
theorem R9 (n : Nat) : ∀ l : List (Nat × SV), lk .dead n (shT l) = if sh ≤ n then lk .dead (n - sh) l else .dead
 | [] => by simp [shT, lk]
 | (j, x) :: l => by
   simp only [shT, lk, R9 n l];by_cases h : sh ≤ n
   · simp only [h, if_true];by_cases e : n = j + sh
     · rw [if_pos e, if_pos (by omega)]
     · rw [if_neg e, if_neg (by omega)]
   · rw [if_neg (by omega), if_neg h, if_neg h]
theorem Vg (n : Nat) : ∀ l : List (Nat × SV), lk .dead n (dnT l) = lk .dead (n + sh) l
 | [] => by simp [dnT, lk]
 | (j, x) :: l => by
   simp only [dnT, lk];by_cases h : sh ≤ j
   · simp only [h, if_true, lk, Vg n l];by_cases e : n = j - sh
     · rw [if_pos e, if_pos (by omega)]
     · rw [if_neg e, if_neg (by omega)]
   · rw [if_neg h, if_neg (by omega), Vg n l]
theorem Vf (n : Nat) : ∀ l : List (Nat × SV), lk .dead n (Md l) = if n < Ft then lk .dead n l else .dead
 | [] => by simp [Md, lk]
 | (j, x) :: l => by
   simp only [Md, lk];by_cases h : j < Ft
   · simp only [h, if_true, lk, Vf n l];by_cases e : n = j
     · subst e; simp [h]
     · simp [e]
   · rw [if_neg h, Vf n l];by_cases hn : n < Ft
     · simp only [hn, if_true]; rw [if_neg (by omega)]
     · simp [hn]
theorem Y2 : ∀ (args : List SV) (k : Nat), ∀ p ∈ Cn k args, p.1 < k + args.length
 | [], k => by simp [Cn]
 | x :: l, k => by
   intro p hp;simp only [Cn, List.mem_cons] at hp;rcases hp with rfl | hp
   · simp
   · have := Y2 l (k + 1) p hp;simp only [List.length_cons]; omega
theorem Xd : ∀ (ps : List Nat) (args : List SV), ∀ p ∈ Nc ps args, p.1 ∈ ps
 | [], args => by simp [Nc]
 | q :: ps, [] => by simp [Nc]
 | q :: ps, x :: args => by
   intro p hp;simp only [Nc, List.mem_cons] at hp;rcases hp with rfl | hp
   · simp
   · exact List.mem_cons_of_mem _ (Xd ps args p hp)
theorem Ks (t h) (args : List SV) (hl : args.length ≤ Ft) : (mk t h).enter args = mk (Cn 0 args ++ (gh, .pv (.i .i64 0)) :: shT t) h := by
 have h1 := Aaq;have h2 := Zx;unfold FS.enter mk;congr 1;funext n;simp only;rw [Le];by_cases hn : n < Ft
 · rw [if_pos hn];have : lk SV.dead n ((gh, .pv (.i .i64 0)) :: shT t) = .dead := by
    simp only [lk];rw [if_neg (by omega), R9, if_neg (by omega)]
   rw [this]
 · rw [if_neg hn, Qm _ n (Cn 0 args) fun p hp e => by have := Y2 args 0 p hp; omega];simp only [lk];by_cases e : n = gh
   · rw [if_pos e, if_pos e]
   · rw [if_neg e, if_neg e, R9, if_pos (by omega)]
theorem Ax7 (t h) : (mk t h).dn = mk (dnT t) h := by
 unfold FS.dn mk;congr 1;funext n;simp only [Vg]
theorem Ka (t h) (ps : List Nat) (args : List SV) (hp : ∀ p ∈ ps, p < Ft) : (mk t h).round ps args = mk ((Nc ps args).reverse ++ (Md (dnT t) ++ shT t)) h := by
 have h1 := Aaq;have h2 := Zx;unfold FS.round mk;congr 1;funext n;simp only;rw [Le, Le];by_cases hn : n < Ft
 · rw [if_pos hn];have e1 : lk SV.dead n (shT t) = .dead := by rw [R9, if_neg (by omega)]
   rw [e1, Vf, if_pos hn, Vg]
 · have hm : ∀ d : SV, lk d n (Nc ps args).reverse = d := fun d => Qm _ _ _ fun p hpp e => by
    have := hp _ (Xd ps args p (List.mem_reverse.1 hpp)); omega
   have hm2 : ∀ d : SV, lk d n (Md (dnT t)) = d := fun d => Qm _ _ _ fun p hpp e => by
    have : ∀ l : List (Nat × SV), ∀ p ∈ Md l, p.1 < Ft := fun l => by
     induction l with
     | nil => simp [Md]
     | cons q l ih =>
       obtain ⟨j, x⟩ := q;intro p hp;simp only [Md] at hp;split at hp
       · rcases List.mem_cons.1 hp with rfl | hp
         · assumption
         · exact ih p hp
       · exact ih p hp
    have := this _ p hpp; omega
   rw [if_neg hn, hm, hm2, R9];by_cases e : n = gh
   · rw [if_pos e, if_neg (by omega)]
   · rw [if_neg e, if_pos (by omega)]
theorem Ag6 : sh = 1000001 := by rw [Zx]; rfl
theorem As6 : gh = 1000000 := by rw [Aaq]; rfl
theorem Amo : shT [] = [] := (rfl)
theorem Ag7 (j x l) : shT ((j, x) :: l) = (j + 1000001, x) :: shT l := by simp only [shT, Ag6]
theorem Ao6 : dnT [] = [] := (rfl)
theorem Akh (j x l) : dnT ((j, x) :: l) = if 1000001 ≤ j then (j - 1000001, x) :: dnT l else dnT l := by simp only [dnT, Ag6]
theorem Air : Md [] = [] := (rfl)
theorem Ael (j x l) : Md ((j, x) :: l) = if j ≤ 999999 then (j, x) :: Md l else Md l := by
 have hb : Ft = 1000000 := rfl;simp only [Md];by_cases h : j ≤ 999999
 · rw [if_pos h, if_pos (by omega)]
 · rw [if_neg h, if_neg (by omega)]
theorem Aht (l) : Nc [] l = [] := by cases l <;> rfl
theorem Aea (p x ps l) : Nc (p :: ps) (x :: l) = (p, x) :: Nc ps l := (rfl)
theorem Aza (K s) : asQ K .normal s = K s := (rfl)
theorem Apf (K s) : Akr K .normal s = K (.pv (.b true)) [.set s.dn.t s.dn.h] := (rfl)
theorem Ape (K s) : Akr K .ret s = K (.pv (.b false)) [.set (s.dn.set gh (.pv (.i .i64 1))).t s.dn.h] := (rfl)
theorem Axj (Q s) : itQ Q .normal s = itK Q s (s.t gh) := (rfl)
theorem Axi (Q s) : itQ Q .ret s = itK Q s (s.t gh) := (rfl)
theorem Axl (Q s k) : itK Q s (.pv (.i k 0)) = Q .normal s.dn := by simp [itK]
theorem Axk (Q s k) : itK Q s (.pv (.i k 1)) = Q .ret s.dn := by simp [itK]
theorem Asb (t h) : (⟨(mk t h).t, (mk t h).h⟩ : FS) = mk t h := (rfl)
theorem Anc (t t' h) : (⟨(mk t h).t, (mk t' h).h⟩ : FS) = mk t h := (rfl)
theorem Arj (rs R s) : Agg rs R .ret s = U2 rs R s := (rfl)
theorem Axs (n z cs x) : SV.frzv n z cs (.pv x) = .pv x := (rfl)
theorem Axu (n z cs f l) : SV.frzv n z cs (.fn f l) = .fn f (SV.frzvL n z cs l) := (rfl)
theorem Axt (n z cs m) : SV.frzv n z cs (.os m) = .os m := (rfl)
theorem A0b (n z cs m o) : SV.frzv n z cs (.p m o) = if n = m then .pi z [cs] 0 o else .p m o := (rfl)
theorem Aok (n z cs) : SV.frzvL n z cs [] = [] := (rfl)
theorem Ajo (n z cs x l) : SV.frzvL n z cs (x :: l) = SV.frzv n z cs x :: SV.frzvL n z cs l := (rfl)
theorem Aoj (n z cs) : Nr n z cs [] = [] := (rfl)
theorem Ajn (n z cs j x l) : Nr n z cs ((j, x) :: l) = (j, x.frzv n z cs) :: Nr n z cs l := (rfl)
theorem Aol (n z cs) : Fh n z cs [] = [] := (rfl)
theorem Ajq (n z cs j l) : Fh n z cs ((j, none) :: l) = (j, none) :: Fh n z cs l := (rfl)
theorem Ajp (n z cs j x l) : Fh n z cs ((j, some x) :: l) = if j = n then (j, none) :: Fh n z cs l else (j, some (x.frzv n z cs)) :: Fh n z cs l := by
 simp only [Fh]; split <;> rfl
theorem Aom (n z cs a b) : Blk.frzv n z cs (.row a b) = .row a b := (rfl)
theorem J0 {T : List (Nat × SV)} {H : List (Nat × Option Blk)} {s' : FS} (n : Nat) {sz : Nat} {es : List (List PV)} (hn : lk none n H = some (.row sz es)) (h : Wk (mk (Vz n (.sl false sz es) T) (Lo n (.sl false sz es) H)) s') : Wk (mk T H) s' :=
 .frz n sz es hn (by rw [Ajs]; exact h)
theorem Abo {T : List (Nat × SV)} {H : List (Nat × Option Blk)} {s' : FS} (n : Nat) {x : SV} {cs : List PV} (hn : lk none n H = some (.var x)) (hc : x.cells? = some cs) (h : Wk (mk (Nr n x.width cs T) (Fh n x.width cs H)) s') : Wk (mk T H) s' :=
 .frzv n x cs hn hc (by rw [Aop]; exact h)
theorem Alw {T : List (Nat × SV)} {H : List (Nat × Option Blk)} {s' : FS} (m n sz : Nat) {z : Nat} (hm : lk none m H = some (.var (.pv (.sl true z [])))) (hmn : m ≠ n) (hs : 0 < sz) (h : Wk (mk (Lv n T) ((m, some (.var (.os n))) :: (n, some (.row sz [])) :: Hj n H)) s') : Wk (mk T H) s' :=
 .nilv m n z sz hm hmn hs (by rw [Vr, Qe, Qe]; exact h)
attribute [go_sem] Amo Ag7 Ao6 Akh Air Ael Aht Aea Aza Apf Ape Axj Axi Axl Axk Asb Anc Arj Ax7 As6 Axs Axu Axt A0b Aok Ajo Aoj Ajn Aol Ajq Ajp Aom List.reverse_cons List.reverse_nil
end Go.Proofs.Ytagpocgklmeoiaa.Fw
namespace Go.Proofs.Ytagpocgklmeoiaa.Fw
open Go.RowKit
variable {P : Program} {F : Fr} {N : Nat} {ρ ρ' : Nat → Value} {s : FS} {a : Act} {w w' : World} {V V' : View}
theorem Afd (hm : P.follows .mixedOrders = true) {f N' : Nat} {rs : List Rv} {c : C} (hf : A8 P f = some (N', rs, c)) {args : List SV} {h : Nat → Option Blk} {d : Nat} {z0 : SV} {sz : Nat} {es : List (List PV)} (hlen : args.length ≤ N')
 (hargs : Bh args = true) (hx : SV.closedL args = true ∨ ∀ c ∈ es, c.all PV.flat = true) (hzs : z0.scalar = true) (hrun : ∀ F, sx (Yn P F N') c (Tj rs fun y g => (∃ n, y = .tup [.os n, z0] ∧ g n = some (.row sz es)) ∨ ∃ z, y = .tup [.pv (.sl true z []), z0] ∧ es = [] ∧ 0 < sz) (mk (Cn 0 (Dg h args)) [])) :
 FunOk P f args h d (.tup [.os d, z0]) [.new d (.row sz es)] := by
 refine ⟨Cb hf, fun F N ρ s a w hR hh vs hc => ?_⟩;refine Calls.mono (Df hm hf (h := h) hlen hargs Kb hrun hR hh hc) fun e w' he => ?_;obtain ⟨v, rfl, hg, N'', ρ', s', a', y, hR', hy, hyy⟩ := he;rcases hyy with ⟨n, rfl, hn⟩ | ⟨z, rfl, rfl, hsz⟩
 case inr =>
  simp only [Conc, ConcL] at hy;obtain ⟨tv, rfl, u1, us1, rfl, hy, u2, us2, rfl, hz2, rfl⟩ := hy;have hv : ∃ base, u1 = .slice base 0 0 := by
   cases hy with
   | sl full sz es b cap cs bl off arr hcap hfull hsz ha hcs hel =>
     have := hfull rfl;simp at this;subst this;exact ⟨b, rfl⟩
  obtain ⟨base, rfl⟩ := hv;obtain ⟨h1, _⟩ := (hR.grew hg).new (Grew.refl w') d (.row sz []) (.slice base 0 0) (fun b hb => by cases base <;> simp [Bl] at hb) (fun V' _ => ⟨base, 0, by rw [Al]; rfl, Nat.le_refl _, hsz, by simp, fun h => absurd rfl h⟩);exact ⟨_, _, rfl, h1, by simp only [Conc, ConcL]; exact ⟨_, rfl, _, _, rfl, by rw [Al]; exact ⟨rfl, trivial⟩, u2, _, rfl, Cy hzs hz2, rfl⟩⟩
 simp only [Conc, ConcL] at hy;obtain ⟨tv, rfl, u1, us1, rfl, hy, u2, us2, rfl, hz2, rfl⟩ := hy;obtain ⟨base, cap, g1, g2, g3, g4, g5⟩ := hR'.own n _ hn;have hown : ∀ b, Bl (ρ' n) = some b → w.heap.size ≤ b ∧ b < w'.heap.size := fun b hb => by
  have ho : Bd ρ' s'.h b := ⟨n, _, hn, hb⟩
  exact ⟨(hR'.may b ho).resolve_right id, hR'.lt ho⟩
 have hnew := hR.adopt hg d (.row sz es) (ρ' n) hown fun hV => by
  refine ⟨base, cap, by rw [Al]; exact g1, g2, g3, g4, fun hcap => ?_⟩;obtain ⟨b, vs', ty, fr, k1, k2, k3, k4, k5, k6⟩ := g5 hcap;refine ⟨b, vs', ty, fr, k1, k2, k3, k4, k5, fun i c hi => ?_⟩;rcases hx with hx | hx
  · obtain ⟨e1, _, _⟩ := Cf hx;rw [e1, Dl] at hR' k6;refine (k6 i c hi).mono (A0 fun b' c' ho hc' => ⟨fun hb' => ?_, hc'⟩);rcases hb' with ⟨m, z, hm1, hm2⟩ | hb'
    · by_cases hmd : m = d
      · subst hmd;rw [Al] at hm2;exact ho (.inl ⟨n, _, hn, hm2⟩)
      · rw [A3 hmd] at hm2;simp only [FS.seth, FS.kill, hmd, if_false] at hm1;obtain ⟨z', hz', _⟩ := Option.map_eq_some_iff.1 hm1;exact ho (.inr (.inl ⟨m, z', hz', hm2⟩))
    · exact ho (.inr (.inr hb'))
  · exact Fp (hx c (List.mem_of_getElem? hi)) (k6 i c hi)
 refine ⟨_, _, rfl, hnew.1, ?_⟩;simp only [Conc, ConcL];exact ⟨_, rfl, u1, _, rfl, ⟨by rw [Al]; exact hy.1, hy.2⟩, u2, _, rfl, Cy hzs hz2, rfl⟩
end Go.Proofs.Ytagpocgklmeoiaa.Fw
namespace Go.Proofs.Ytagpocgklmeoiaa.Fw
open Go.RowKit
section
variable {E : Env}
theorem Ayp (x d s K) : body E .rgs x d s K = Ag d s.h .rgs (Be s x) K := (rfl)
theorem Ayr (x d s K) : body E .nxs x d s K = Ag d s.h .nxs (Be s x) K := (rfl)
theorem Ayq (x d s K) : body E .r2s x d s K = Ag d s.h .r2s (Be s x) K := (rfl)
end
theorem Awe (d h l K) : Ag d h .rgs [.pv (.s l)] K = K (.p d 0) [.new d (.it l 0)] := (rfl)
theorem Awg (d h n K) : Ag d h .nxs [.p n 0] K = R3 (h n) n K := (rfl)
theorem Awf (d h k n K) : Ag d h .r2s [.pv (.i k n)] K = K (.pv (.s (Sp n))) [] := (rfl)
theorem Awx {l : List UInt8} {pos : Nat} (h : pos < l.length) (n K) : R3 (some (.it l pos)) n K = K (.tup [.pv (.b true), .pv (.i .i64 pos), .pv (.i .i32 (Nx l pos).1)]) [.upd n (.it l (pos + (Nx l pos).2))] := if_pos h
theorem Awy {l : List UInt8} {pos : Nat} (h : ¬ pos < l.length) (n K) : R3 (some (.it l pos)) n K = K (.tup [.pv (.b false)]) [] := if_neg h
attribute [go_sem] Av5 Aee Aef Aeg
attribute [go_sem] Ayp Ayr Ayq Awe Awg Awf Awx Awy
end Go.Proofs.Ytagpocgklmeoiaa.Fw
namespace Go.Proofs.Ytagpocgklmeoiaa.Fw
open Go.RowKit
variable {P : Program} {F : Fr} {N : Nat} {ρ : Nat → Value} {s : FS} {a : Act} {w : World} {V : View} {π : Nat → Nat}
mutual
def SV.rn (π : Nat → Nat) : SV → SV
 | .p m o => .p (π m) o
 | .ps m o => .ps (π m) o
 | .pr m s i o => .pr (π m) s i o
 | .os m => .os (π m)
 | .ov m z a b => .ov (π m) z a b
 | .agg l => .agg (SV.rnL π l)
 | .tup l => .tup (SV.rnL π l)
 | .fn f l => .fn f (SV.rnL π l)
 | x => x
def SV.rnL (π : Nat → Nat) : List SV → List SV
 | [] => []
 | x :: l => SV.rn π x :: SV.rnL π l
end
def Blk.rn (π : Nat → Nat) : Blk → Blk
 | .var x => .var (x.rn π)
 | b => b
def HU.rn (π : Nat → Nat) : HU → HU
 | .new n b => .new (π n) (b.rn π)
 | .upd n b => .upd (π n) (b.rn π)
 | .del n => .del (π n)
 | .frz n x => .frz (π n) x
 | .set t h => .set (fun k => (t k).rn π) (fun n => (h (π n)).map (Blk.rn π))
def FS.rn (s : FS) (π : Nat → Nat) : FS := ⟨fun k => (s.t k).rn π, fun n => (s.h (π n)).map (Blk.rn π)⟩
mutual
theorem Q2 (π : Nat → Nat) : ∀ x : SV, (x.rn π).width = x.width
 | .agg l => by simp only [SV.rn, SV.width]; exact Tk π l
 | .pv _ => rfl
 | .vec _ _ => rfl
 | .tup _ => rfl
 | .p _ _ => rfl
 | .ps _ _ => rfl
 | .pr _ _ _ _ => rfl
 | .pi _ _ _ _ => rfl
 | .os _ => rfl
 | .ov _ _ _ _ => rfl
 | .fn _ _ => rfl
 | .dead => rfl
theorem Tk (π : Nat → Nat) : ∀ l : List SV, SV.widthL (SV.rnL π l) = SV.widthL l
 | [] => rfl
 | x :: l => by simp only [SV.rnL, SV.widthL, Q2 π x, Tk π l]
end
mutual
theorem Conc.rn (hπ : ∀ n, π (π n) = n) : ∀ {x : SV} {v}, Conc V ρ x v → Conc V (fun n => ρ (π n)) (x.rn π) v
 | .pv x, v, h => by simp only [SV.rn, Conc] at *; exact h
 | .vec n cs, v, h => by simp only [SV.rn, Conc] at *; exact h
 | .agg l, v, h => by simp only [SV.rn, Conc] at *; obtain ⟨vs, a, b⟩ := h; exact ⟨vs, a, Cells.rn hπ b⟩
 | .tup l, v, h => by simp only [SV.rn, Conc] at *; obtain ⟨vs, a, b⟩ := h; exact ⟨vs, a, ConcL.rn hπ b⟩
 | .p m off, v, h => by simp only [SV.rn, Conc, hπ] at *; exact h
 | .ps m off, v, h => by simp only [SV.rn, Conc, hπ] at *; exact h
 | .pr m sz i off, v, h => by simp only [SV.rn, Conc, hπ] at *; exact h
 | .pi sz es i off, v, h => by simp only [SV.rn, Conc] at *; exact h
 | .os m, v, h => by simp only [SV.rn, Conc, hπ] at *; exact h
 | .ov m z a b, v, h => by simp only [SV.rn, Conc, hπ] at *; exact h
 | .fn f cap, v, h => by simp only [SV.rn, Conc] at *; obtain ⟨vs, a, b⟩ := h; exact ⟨vs, a, ConcL.rn hπ b⟩
 | .dead, v, h => by simp only [SV.rn, Conc]
theorem ConcL.rn (hπ : ∀ n, π (π n) = n) : ∀ {l : List SV} {vs}, ConcL V ρ l vs → ConcL V (fun n => ρ (π n)) (SV.rnL π l) vs
 | [], vs, h => by simp only [SV.rnL, ConcL] at *; exact h
 | x :: l, vs, h => by simp only [SV.rnL, ConcL] at *; obtain ⟨u, us, a, b, c⟩ := h; exact ⟨u, us, a, Conc.rn hπ b, ConcL.rn hπ c⟩
theorem Cells.rn (hπ : ∀ n, π (π n) = n) : ∀ {l : List SV} {vs}, Cells V ρ l vs → Cells V (fun n => ρ (π n)) (SV.rnL π l) vs
 | [], vs, h => by simp only [SV.rnL, Cells] at *; exact h
 | x :: l, vs, h => by
   simp only [SV.rnL, Cells] at *;obtain ⟨u, us, a, b, c, d, e⟩ := h;exact ⟨u, us, a, Conc.rn hπ b, by rw [Q2]; exact c, d, Cells.rn hπ e⟩
end
mutual
theorem Ahj (hπ : ∀ n, π (π n) = n) : ∀ x : SV, (x.rn π).rn π = x
 | .pv x => rfl
 | .vec n cs => rfl
 | .agg l => by simp only [SV.rn, I0 hπ l]
 | .tup l => by simp only [SV.rn, I0 hπ l]
 | .p m off => by simp only [SV.rn, hπ]
 | .ps m off => by simp only [SV.rn, hπ]
 | .pr m sz i off => by simp only [SV.rn, hπ]
 | .pi sz es i off => rfl
 | .os m => by simp only [SV.rn, hπ]
 | .ov m z a b => by simp only [SV.rn, hπ]
 | .fn f cap => by simp only [SV.rn, I0 hπ cap]
 | .dead => rfl
theorem I0 (hπ : ∀ n, π (π n) = n) : ∀ l : List SV, SV.rnL π (SV.rnL π l) = l
 | [] => rfl
 | x :: l => by simp only [SV.rnL, Ahj hπ x, I0 hπ l]
end
theorem Ac7 (hπ : ∀ n, π (π n) = n) (b : Blk) : (b.rn π).rn π = b := by
 cases b with
 | var x => simp only [Blk.rn, Ahj hπ x]
 | row sz es => rfl
 | rowc sz es c => rfl
 | it l p => rfl
theorem Own.rn (hπ : ∀ n, π (π n) = n) {n : Nat} {blk : Blk} (h : Own w V ρ (π n) blk) : Own w V (fun n => ρ (π n)) n (blk.rn π) := by
 cases blk with
 | var x =>
   obtain ⟨b, vs, ty, fr, u, g1, g2, g3, g4, g5, g6, g7⟩ := h;exact ⟨b, vs, ty, fr, u, g1, g2, g3, g4.rn hπ, g5, by rw [Q2]; exact g6, g7⟩
 | row sz es => exact h
 | rowc sz es c => exact h
 | it l p => exact h
theorem RelR.rn (hπ : ∀ n, π (π n) = n) (h : RelR F N ρ s a w) : RelR F N (fun n => ρ (π n)) (s.rn π) a w := by
 have hh : ∀ n x, (s.rn π).h n = some x → ∃ y, s.h (π n) = some y ∧ x = y.rn π := fun n x hx => by
  obtain ⟨y, h1, h2⟩ := Option.map_eq_some_iff.1 hx;exact ⟨y, h1, h2.symm⟩
 have how : ∀ b, Bd (fun n => ρ (π n)) (s.rn π).h b ↔ Bd ρ s.h b := fun b => by
  constructor
  · rintro ⟨n, x, h1, h2⟩;obtain ⟨y, h3, _⟩ := hh n x h1;exact ⟨π n, y, h3, h2⟩
  · rintro ⟨n, x, h1, h2⟩;exact ⟨π n, x.rn π, by simp only [FS.rn, hπ, h1]; rfl, by simpa only [hπ] using h2⟩
 have hV : Ao w (F.out (fun n => ρ (π n)) (s.rn π).h) = Ao w (F.out ρ s.h) := by
  congr 1;funext b;exact propext (or_congr_left (how b))
 refine ⟨h.fr, fun b hb => h.may b ((how b).1 hb), fun n x hx => ?_, fun n m x y b hn hm hbn hbm => ?_, fun n => ?_, h.size, h.defers⟩
 · obtain ⟨y, h1, rfl⟩ := hh n x hx;rw [hV];exact (h.own (π n) y h1).rn hπ
 · obtain ⟨x', h1, _⟩ := hh n x hn;obtain ⟨y', h2, _⟩ := hh m y hm;have := h.inj (π n) (π m) x' y' b h1 h2 hbn hbm;have := congrArg π this;simpa only [hπ] using this
 · rw [hV];exact (h.tmps n).rn hπ
mutual
theorem Vq (hπ : ∀ n, π (π n) = n) (n : Nat) : ∀ x : SV, (x.kill n).rn π = (x.rn π).kill (π n)
 | .pv x => rfl
 | .vec m cs => rfl
 | .agg l => by simp only [SV.kill, SV.rn, Nk hπ n l]
 | .tup l => by simp only [SV.kill, SV.rn, Nk hπ n l]
 | .p m off => by simp only [SV.kill, SV.rn, (Oy hπ n m)]; split <;> simp only [SV.rn]
 | .ps m off => by simp only [SV.kill, SV.rn, (Oy hπ n m)]; split <;> simp only [SV.rn]
 | .pr m sz i off => by simp only [SV.kill, SV.rn, (Oy hπ n m)]; split <;> simp only [SV.rn]
 | .pi sz es i off => rfl
 | .os m => by simp only [SV.kill, SV.rn, (Oy hπ n m)]; split <;> simp only [SV.rn]
 | .ov m z a b => by simp only [SV.kill, SV.rn, (Oy hπ n m)]; split <;> simp only [SV.rn]
 | .fn f cap => by simp only [SV.kill, SV.rn, Nk hπ n cap]
 | .dead => rfl
theorem Nk (hπ : ∀ n, π (π n) = n) (n : Nat) : ∀ l : List SV, SV.rnL π (SV.killL n l) = SV.killL (π n) (SV.rnL π l)
 | [] => rfl
 | x :: l => by simp only [SV.killL, SV.rnL, Vq hπ n x, Nk hπ n l]
theorem Oy (hπ : ∀ n, π (π n) = n) (n m : Nat) : (π n = π m) = (n = m) := propext ⟨fun h => by have := congrArg π h; simpa only [hπ] using this, fun h => by rw [h]⟩
end
mutual
theorem Aar (hπ : ∀ n, π (π n) = n) (n : Nat) (v : PV) : ∀ x : SV, (x.frz n v).rn π = (x.rn π).frz (π n) v
 | .pv x => rfl
 | .vec m cs => rfl
 | .agg l => by simp only [SV.frz, SV.rn, Qs hπ n v l]
 | .tup l => by simp only [SV.frz, SV.rn, Qs hπ n v l]
 | .p m off => rfl
 | .ps m off => rfl
 | .pr m sz i off => rfl
 | .pi sz es i off => rfl
 | .os m => by simp only [SV.frz, SV.rn, (Oy hπ n m)]; split <;> simp only [SV.rn]
 | .ov m z a b => rfl
 | .fn f cap => by simp only [SV.frz, SV.rn, Qs hπ n v cap]
 | .dead => rfl
theorem Qs (hπ : ∀ n, π (π n) = n) (n : Nat) (v : PV) : ∀ l : List SV, SV.rnL π (SV.frzL n v l) = SV.frzL (π n) v (SV.rnL π l)
 | [] => rfl
 | x :: l => by simp only [SV.frzL, SV.rnL, Aar hπ n v x, Qs hπ n v l]
end
theorem Aks (hπ : ∀ n, π (π n) = n) (n : Nat) (b : Blk) : (b.kill n).rn π = (b.rn π).kill (π n) := by
 cases b with
 | var x => simp only [Blk.kill, Blk.rn, Vq hπ n x]
 | row sz es => rfl
 | rowc sz es c => rfl
 | it l p => rfl
theorem Apk (hπ : ∀ n, π (π n) = n) (n : Nat) (v : PV) (b : Blk) : (b.frz n v).rn π = (b.rn π).frz (π n) v := by
 cases b with
 | var x => simp only [Blk.frz, Blk.rn, Aar hπ n v x]
 | row sz es => rfl
 | rowc sz es c => rfl
 | it l p => rfl
theorem Aqc (hπ : ∀ n, π (π n) = n) (n m : Nat) : (π n = m) = (n = π m) := propext ⟨fun h => by rw [← h, hπ], fun h => by rw [h, hπ]⟩
theorem Ag3 (hπ : ∀ n, π (π n) = n) (n : Nat) (s : FS) : (s.kill n).rn π = (s.rn π).kill (π n) := by
 refine FS.ext' (fun k => Vq hπ n _) (fun k => ?_);simp only [FS.kill, FS.rn, Option.map_map];cases s.h (π k) with
 | none => rfl
 | some b => simp only [Option.map_some, Function.comp, Aks hπ n b]
theorem Ux (hπ : ∀ n, π (π n) = n) (n : Nat) (b : Option Blk) (s : FS) : (s.seth n b).rn π = (s.rn π).seth (π n) (b.map (Blk.rn π)) := by
 refine FS.ext' (fun k => rfl) (fun k => ?_);simp only [FS.seth, FS.rn, Aqc hπ k n];split <;> rfl
theorem Amq (hπ : ∀ n, π (π n) = n) (n : Nat) (v : PV) (s : FS) : (s.frz n v).rn π = (s.rn π).frz (π n) v := by
 refine FS.ext' (fun k => Aar hπ n v _) (fun k => ?_);simp only [FS.frz, FS.rn, Aqc hπ k n, Option.map_map];split
 · rfl
 · cases s.h (π k) with
   | none => rfl
   | some b => simp only [Option.map_some, Function.comp, Apk hπ n v b]
theorem O0 (hπ : ∀ n, π (π n) = n) : ∀ (u : List HU) (s : FS), (s.hup u).rn π = (s.rn π).hup (u.map (HU.rn π))
 | [], s => rfl
 | .new n b :: u, s => by simp only [FS.hup, List.map_cons, HU.rn, O0 hπ u, Ux hπ, Ag3 hπ]; rfl
 | .upd n b :: u, s => by simp only [FS.hup, List.map_cons, HU.rn, O0 hπ u, Ux hπ]; rfl
 | .del n :: u, s => by simp only [FS.hup, List.map_cons, HU.rn, O0 hπ u, Ux hπ]; rfl
 | .frz n v :: u, s => by simp only [FS.hup, List.map_cons, HU.rn, O0 hπ u, Amq hπ]
 | .set t h :: u, s => by simp only [FS.hup, List.map_cons, HU.rn, O0 hπ u]; rfl
mutual
theorem Avk (hπ : ∀ n, π (π n) = n) {k : Nat} : ∀ {x : SV}, k ∈ tn (x.rn π) → π k ∈ tn x
 | .p m o, h => by simp only [SV.rn, tn, List.mem_singleton] at *; rw [h, hπ]
 | .ps m o, h => by simp only [SV.rn, tn, List.mem_singleton] at *; rw [h, hπ]
 | .pr m z i o, h => by simp only [SV.rn, tn, List.mem_singleton] at *; rw [h, hπ]
 | .os m, h => by simp only [SV.rn, tn, List.mem_singleton] at *; rw [h, hπ]
 | .ov m z a b, h => by simp only [SV.rn, tn, List.mem_singleton] at *; rw [h, hπ]
 | .fn f cap, h => by simp only [SV.rn, tn] at *; exact K7 hπ h
 | .pv _, h => by simp [SV.rn, tn] at h
 | .vec _ _, h => by simp [SV.rn, tn] at h
 | .agg l, h => by simp only [SV.rn, tn] at *; exact K7 hπ h
 | .tup l, h => by simp only [SV.rn, tn] at *; exact K7 hπ h
 | .pi _ _ _ _, h => by simp [SV.rn, tn] at h
 | .dead, h => by simp [SV.rn, tn] at h
theorem K7 (hπ : ∀ n, π (π n) = n) {k : Nat} : ∀ {l : List SV}, k ∈ A2 (SV.rnL π l) → π k ∈ A2 l
 | [], h => by simp [SV.rnL, A2] at h
 | x :: l, h => by
   simp only [SV.rnL, A2, List.mem_append] at *;exact h.imp (Avk hπ) (K7 hπ)
end
theorem Ap0 (hπ : ∀ n, π (π n) = n) (F : Fr) (w : World) (ρ : Nat → Value) (s : FS) : vw F w (fun n => ρ (π n)) (s.rn π) = vw F w ρ s := by
 show Ao w _ = Ao w _;congr 1;funext b;refine propext (or_congr_left ⟨?_, ?_⟩)
 · rintro ⟨n, x, h1, h2⟩;obtain ⟨y, h3, _⟩ := Option.map_eq_some_iff.1 h1;exact ⟨π n, y, h3, h2⟩
 · rintro ⟨n, x, h1, h2⟩;exact ⟨π n, x.rn π, by simp only [FS.rn, hπ, h1]; rfl, by simpa only [hπ] using h2⟩
theorem FunOk.rn (hπ : ∀ n, π (π n) = n) {f : Nat} {args : List SV} {h : Nat → Option Blk} {d d' : Nat} {x : SV} {u : List HU} (hf : FunOk P f args h d x u) :
 FunOk P f (SV.rnL π args) (fun n => (h (π n)).map (Blk.rn π)) d' (x.rn π) (u.map (HU.rn π)) := by
 refine ⟨hf.1, fun F N ρ s a w hR hh vs hc => ?_⟩;have hR' := hR.rn hπ;have hc' : ConcL (vw F w (fun n => ρ (π n)) (s.rn π)) (fun n => ρ (π n)) args vs := by
  rw [Ap0 hπ];have := hc.rn hπ
  rwa [I0 hπ] at this
 refine Calls.mono (hf.2 F N _ _ a w hR' (fun n hn => ?_) vs hc') fun e w' he => ?_
 · have hm : π n ∈ A2 (SV.rnL π args) := by
    have := K7 hπ (k := π n) (l := SV.rnL π args);rw [I0 hπ, hπ] at this;refine Classical.byContradiction fun hno => ?_;have key : ∀ (l : List SV) (k : Nat), k ∈ A2 l → π k ∈ A2 (SV.rnL π l) := fun l k hk => by
     have := K7 hπ (k := π (π k)) (l := SV.rnL π l);rw [I0 hπ, hπ] at this;exact this hk
    exact hno (key args n hn)
   have := hh (π n) hm;simp only [FS.rn];rw [this];simp only [hπ];cases h n with
   | none => rfl
   | some b => simp only [Option.map_some, Ac7 hπ]
 · obtain ⟨v, ρ', rfl, h1, h2⟩ := he;have h1' := h1.rn hπ;have e : ((s.rn π).hup u).rn π = s.hup (u.map (HU.rn π)) := by
    rw [O0 hπ];congr 1;refine FS.ext' (fun k => Ahj hπ _) (fun k => ?_);simp only [FS.rn, hπ, Option.map_map];cases s.h k with
    | none => rfl
    | some b => simp only [Option.map_some, Function.comp, Ac7 hπ]
   rw [e] at h1';refine ⟨v, _, rfl, h1', ?_⟩;have h2' := h2.rn hπ;have ev := Ap0 hπ F w' ρ' ((s.rn π).hup u);rw [e] at ev;rw [ev];exact h2'
theorem FunOk.at {f : Nat} {args : List SV} {h h' : Nat → Option Blk} {d : Nat} {x : SV} {u : List HU} (hf : FunOk P f args h d x u) (hh : ∀ n ∈ A2 args, h' n = h n) : FunOk P f args h' d x u :=
 ⟨hf.1, fun F N ρ s a w hR hs vs hc => hf.2 F N ρ s a w hR (fun n hn => (hs n hn).trans (hh n hn)) vs hc⟩
def Wt (a m : Nat) (k : Nat) : Nat := if k = a then m else if k = m then a else k
theorem Gl (a m : Nat) (k : Nat) : Wt a m (Wt a m k) = k := by unfold Wt; split <;> (try split) <;> (try split) <;> omega
end Go.Proofs.Ytagpocgklmeoiaa.Fw
namespace Go.Proofs.Ytagpocgklmeoiaa.Fw
open Go.RowKit
abbrev iM (d n : Nat) : I := ⟨.mv, [.t n], some d, none⟩
abbrev iJ (k : Kd) (x : List Opd) (d : Nat) : I := ⟨k, x, some d, none⟩
abbrev iO (k : Kd) (x : List Opd) : I := ⟨k, x, none, none⟩
abbrev iG (k : Kd) (x : List Opd) (d g : Nat) (w : Bool) : I := ⟨k, x, some d, some (g, w)⟩
abbrev cI (n : Int) : Opd := .c (.pv (.i .i64 n))
section
variable (E : Env)
def Acv (D ps : List Nat) (c j : Nat) (d : Option Nat) (T : List Nat) (acc : List (Nat × List Nat)) (l : List (I × Nat × List Nat × List Nat × Nat)) (Q : Bx) (s : FS) : KK :=
 fun x u => okP D c (d.getD 1000000000) x u T ∧ Ahf acc ps T ∧ sxP E l (Apy c j T acc) Q (s.apply d x u)
def gdP (D ps : List Nat) (c j : Nat) (k : Kd) (x : List Opd) (d : Nat) (T : List Nat) (acc : List (Nat × List Nat)) (l : List (I × Nat × List Nat × List Nat × Nat)) (Q : Bx) (s : FS) : Prop := body E k x d s (Acv E D ps c j (some d) T acc l Q s)
def skP (D ps : List Nat) (c j : Nat) (d : Nat) (T : List Nat) (acc : List (Nat × List Nat)) (l : List (I × Nat × List Nat × List Nat × Nat)) (Q : Bx) (s : FS) : Prop := Acv E D ps c j (some d) T acc l Q s (.tup []) []
theorem Eu (D ps c j k x d T acc l Q s) : gdP E D ps c j k x d T acc l Q s = body E k x d s (Acv E D ps c j (some d) T acc l Q s) := (rfl)
theorem Et (D ps c j d T acc l Q s) : skP E D ps c j d T acc l Q s = Acv E D ps c j (some d) T acc l Q s (.tup []) [] := (rfl)
variable {E}
end
abbrev iU (k : Kd) (n d : Nat) : I := ⟨k, [.t n], some d, none⟩
abbrev iD (k : Kd) (m n d : Nat) : I := ⟨k, [.t m, .t n], some d, none⟩
abbrev iV (k : Kd) (n d g : Nat) (w : Bool) : I := ⟨k, [.t n], some d, some (g, w)⟩
abbrev L1 : Kd := .ld 1 false
abbrev L2 : Kd := .ld 2 true
abbrev L8 : Kd := .ld 8 true
abbrev B1 : Kd := .bin .eql
abbrev B2 : Kd := .bin .add
abbrev B3 : Kd := .bin .lss
abbrev B4 : Kd := .bin .gtr
abbrev B5 : Kd := .bin .sub
abbrev B6 : Kd := .bin .neq
abbrev B7 : Kd := .bin .leq
abbrev B8 : Kd := .bin .geq
abbrev U1 : Kd := .un .not
abbrev S1 : Kd := .sto 1
abbrev zV : SV := .vec 8 (List.replicate 8 (.i .u32 0))
abbrev zW : SV := .vec 8 (List.replicate 8 (.i .i64 0))
abbrev zX : SV := .vec 8 (List.replicate 8 (.b false))
abbrev zN : SV := .pv (.sl true 0 [])
abbrev zI : SV := .pv (.i .i64 0)
abbrev zU : SV := .pv (.i .u32 0)
abbrev zF : SV := .pv (.b false)
abbrev zS : SV := .pv (.s [])
abbrev zT : SV := .pv (.b true)
abbrev jP (a b d : Nat) : I := ⟨.pick, [.t a, .c zT, .t b], some d, none⟩
abbrev jQ (a b d : Nat) : I := ⟨.pick, [.t a, .t b, .c zF], some d, none⟩
abbrev jC (n : Int) (d : Nat) : I := ⟨.mv, [cI n], some d, none⟩
abbrev jW (z a b : Nat) : I := ⟨.sto z, [.t a, .t b], none, none⟩
abbrev jF (o n d : Nat) : I := ⟨.fa o, [.t n], some d, none⟩
abbrev jK (k : Kd) (a : Nat) (n : Int) (d : Nat) : I := ⟨k, [.t a, cI n], some d, none⟩
abbrev jA (k : Kd) (n d g : Nat) : I := ⟨k, [.t n], some d, some (g, true)⟩
abbrev jB (k : Kd) (n d g : Nat) : I := ⟨k, [.t n], some d, some (g, false)⟩
abbrev jE (d : Nat) : I := ⟨.new (.agg [zI, zU, zV, zI, zI, zU, zI, zU, zS, zN, zN, zI, zS, zI]), [], some d, none⟩
abbrev jL (o n d g : Nat) : I := ⟨.fa o, [.t n], some d, some (g, true)⟩
abbrev jN (o n d g : Nat) : I := ⟨.fa o, [.t n], some d, some (g, false)⟩
abbrev jS (l : List I) (c : C) : C := .seq (.ops l) c
abbrev jI (n : Nat) (a : C) : C := .ite (.t n) a .skip
attribute [go_sem] L1 L2 L8 B1 B2 B3 B4 B5 B6 B7 B8 U1 S1 zV zW zX zN zI zU zF zS zT
end Go.Proofs.Ytagpocgklmeoiaa.Fw
namespace Go.Proofs.Ytagpocgklmeoiaa.Fw
open Go.RowKit
variable {P : Program} {F : Fr} {N : Nat} {ρ ρ' : Nat → Value} {s : FS} {a : Act} {w w' : World} {V V' : View}
def Blk.ptr (n : Nat) : Blk → SV
 | .var _ => .p n 0
 | .row _ _ => .os n
 | _ => .dead
def Blk.plain : Blk → Bool
 | .var x => x.closed
 | .row _ _ => true
 | _ => false
theorem Own.closed {n m : Nat} {blk : Blk} (hb : blk.plain = true) (hV : V.le V') (he : ρ n = ρ' m) (h : Own w V ρ' m blk) : Own w V' ρ n blk := by
 cases blk with
 | var x =>
   obtain ⟨b, vs, ty, fr, u, g1, g2, g3, g4, g5, g6, g7⟩ := h;exact ⟨b, vs, ty, fr, u, he.trans g1, g2, g3, Bz hV hb g4, g5, g6, g7⟩
 | row sz es =>
   obtain ⟨base, cap, g1, g2, g3, g4, g5⟩ := h;refine ⟨base, cap, he.trans g1, g2, g3, g4, fun hc => ?_⟩;obtain ⟨b, vs, ty, fr, k1, k2, k3, k4, k5, k6⟩ := g5 hc;exact ⟨b, vs, ty, fr, k1, k2, k3, k4, k5, fun i c hi => (k6 i c hi).mono hV⟩
 | rowc sz es c => cases hb
 | it l p => cases hb
theorem Qf {n : Nat} {blk : Blk} (hb : (blk.ptr n).kill n ≠ blk.ptr n) (h : Own w V ρ n blk) : Conc V ρ (blk.ptr n) (ρ n) := by
 cases blk with
 | var x =>
   obtain ⟨b, vs, ty, fr, u, g1, _⟩ := h;simp only [Blk.ptr, Conc];exact ⟨b, g1, g1⟩
 | row sz es =>
   obtain ⟨base, cap, g1, _⟩ := h;simp only [Blk.ptr, Conc];exact ⟨trivial, by rw [g1]; trivial⟩
 | rowc sz es c => simp only [Blk.ptr, SV.kill] at hb; exact absurd rfl hb
 | it l p => simp only [Blk.ptr, SV.kill] at hb; exact absurd rfl hb
theorem Xb {n m : Nat} {b b' : Blk} {v : Value} (hp : b'.ptr m = b.ptr m) (hb : (b.ptr n).kill n ≠ b.ptr n) (h : Conc V ρ (b.ptr n) v) (h' : Conc V' ρ' (b'.ptr m) v) : ρ n = ρ' m := by
 rw [hp] at h';cases b with
 | var x =>
   simp only [Blk.ptr, Conc] at h h';obtain ⟨p, e1, e2⟩ := h;obtain ⟨q, e3, e4⟩ := h';rw [e1, e3, ← e2, ← e4]
 | row sz es =>
   simp only [Blk.ptr, Conc] at h h';rw [← h.1, ← h'.1]
 | rowc sz es c => simp only [Blk.ptr, SV.kill] at hb; exact absurd rfl hb
 | it l p => simp only [Blk.ptr, SV.kill] at hb; exact absurd rfl hb
theorem Je (hm : P.follows .mixedOrders = true) {f N' : Nat} {rs : List Rv} {c : C} (hf : A8 P f = some (N', rs, c)) {args : List SV} {h : Nat → Option Blk} {d g : Nat} {blk blk' : Blk} {x : SV} (hlen : args.length ≤ N')
 (hts : ∀ n ∈ A2 args, n = g) (hgt : g ∈ A2 args) (hg : h g = some blk) (hx : x.closed = true) (hp : (blk.ptr g).kill g ≠ blk.ptr g) (hb' : blk'.plain = true) (hpp : ∀ m, blk'.ptr m = blk.ptr m)
 (hrun : ∀ F, sx (Yn P F N') c (Agg rs fun y s => y = x ∧ ∃ m, s.t 1000000 = blk'.ptr m ∧ s.h m = some blk') (mk (Cn 0 args ++ [(1000000, blk.ptr g)]) [(g, some blk)])) :
 FunOk P f args h d x [.upd g blk'] := by
 refine ⟨Cb hf, fun F N ρ s a w hR hh vs hc => ?_⟩;have hsg : s.h g = some blk := (hh g hgt).trans hg;have hvl : vs.length = args.length := by
  clear hrun hlen hts hh hgt
  induction args generalizing vs with
  | nil => simp only [ConcL] at hc; subst hc; rfl
  | cons x l ih =>
    simp only [ConcL] at hc;obtain ⟨v, us, rfl, _, h⟩ := hc;simp [ih _ h]
 let F' : Fr := ⟨w, P3 ρ s.h [g], F.out ρ (Ay s [g]).h, fun _ => ρ g, []⟩
 have hmine : ∀ b, P3 ρ s.h [g] b ↔ Bl (ρ g) = some b := fun b => by
  constructor
  · rintro ⟨n, hn, x, h1, h2⟩;simp only [List.mem_singleton] at hn; subst hn; exact h2
  · intro hb; exact ⟨g, List.mem_singleton.2 rfl, blk, hsg, hb⟩
 have hlk : ∀ n, lk none n [(g, some blk)] = if n = g then some blk else none := fun n => by simp only [lk]
 have how : ∀ b, Bd ρ (mk (Cn 0 args ++ [(1000000, blk.ptr g)]) [(g, some blk)]).h b ↔ P3 ρ s.h [g] b := fun b => by
  rw [hmine];constructor
  · rintro ⟨n, x, h1, h2⟩;simp only [mk, hlk] at h1;split at h1
    · rename_i e; subst e; exact h2
    · cases h1
  · intro hb; exact ⟨g, blk, by simp [mk, lk], hb⟩
 have hoth : ∀ b, Bd ρ (Ay s [g]).h b ↔ ∃ n, n ≠ g ∧ ∃ x, s.h n = some x ∧ Bl (ρ n) = some b := fun b => by
  constructor
  · rintro ⟨n, x, h1, h2⟩;simp only [Ay, List.mem_singleton] at h1; split at h1
    · cases h1
    · rename_i hn; exact ⟨n, hn, x, h1, h2⟩
  · rintro ⟨n, hn, x, h1, h2⟩;exact ⟨n, x, by simp only [Ay, List.mem_singleton, if_neg hn]; exact h1, h2⟩
 have hview : Ao w (F'.out ρ (mk (Cn 0 args ++ [(1000000, blk.ptr g)]) [(g, some blk)]).h) = vw F w ρ s := by
  show Ao w _ = Ao w _;congr 1;funext b;refine propext ⟨fun hb => ?_, fun hb => ?_⟩
  · rcases hb with hb | hb
    · obtain ⟨n, _, x, h1, h2⟩ := (how b).1 hb; exact .inl ⟨n, x, h1, h2⟩
    · rcases hb with hb | hb
      · obtain ⟨n, _, x, h1, h2⟩ := (hoth b).1 hb; exact .inl ⟨n, x, h1, h2⟩
      · exact .inr hb
  · rcases hb with ⟨n, x, h1, h2⟩ | hb
    · by_cases hn : n = g
      · subst hn; exact .inl ((how b).2 ((hmine b).2 h2))
      · exact .inr (.inl ((hoth b).2 ⟨n, hn, x, h1, h2⟩))
    · exact .inr (.inr hb)
 have hgl : ∀ (k : Nat) (l : List SV) (n : Nat) (t : List (Nat × SV)), (∀ i, k ≤ i → i < k + l.length → i ≠ n) → lk .dead n (Cn k l ++ t) = lk .dead n t := by
  intro k l
  induction l generalizing k with
  | nil => intro n t _; rfl
  | cons y l ih =>
    intro n t hn;simp only [Cn, List.cons_append, lk];rw [if_neg fun e => hn k (Nat.le_refl k) (by simp) e.symm];exact ih (k + 1) n t fun i h1 h2 => hn i (by omega) (by simp only [List.length_cons]; omega)
 have hap : ∀ (k : Nat) (l : List SV) (n : Nat) (t : List (Nat × SV)), k ≤ n → n < k + l.length → lk .dead n (Cn k l ++ t) = lk .dead n (Cn k l) := by
  intro k l
  induction l generalizing k with
  | nil => intro n t h1 h2; simp at h2; omega
  | cons y l ih =>
    intro n t h1 h2;simp only [Cn, List.cons_append, lk];split
    · rfl
    · exact ih (k + 1) n t (by omega) (by simp only [List.length_cons] at h2; omega)
 have hN := Nt hf;have hR0 : RelR F' N' ρ (mk (Cn 0 args ++ [(1000000, blk.ptr g)]) [(g, some blk)]) { tmps := (⟨vs⟩ : Array Value) ++ Array.replicate (N' - (⟨vs⟩ : Array Value).size) undef, defers := [] } w := by
  refine ⟨⟨rfl, rfl, rfl, Nat.le_refl _, fun _ _ _ => rfl, fun b hb => ⟨?_, fun hmi => ?_⟩, ⟨hR.tabW, fun p hp hmi => hR.tabN hp ⟨g, blk, hsg, (hmine p.1).1 hmi⟩⟩⟩, fun b hb => .inr ((how b).1 hb), fun n x hx => ?_, fun n m x y b hx hy hbx hby => ?_, fun n => ?_, by simp; omega, rfl⟩
  · rcases hb with hb | hb
    · obtain ⟨n, _, x, h1, h2⟩ := (hoth b).1 hb; exact (hR.own n x h1).lt h2
    · exact Nat.lt_of_lt_of_le (hR.fr.hid b hb).1 hR.fr.size
  · have hmb := (hmine b).1 hmi;rcases hb with hb | hb
    · obtain ⟨m, hm, y, g1, g2⟩ := (hoth b).1 hb;exact hm (hR.inj m g y blk b g1 hsg g2 hmb)
    · exact hR.shown ⟨g, blk, hsg, hmb⟩ hb
  · rw [hview];simp only [mk, hlk] at hx; split at hx
    · rename_i e; subst e; cases hx; exact hR.own _ _ hsg
    · cases hx
  · simp only [mk, hlk] at hx hy;split at hx
    · split at hy
      · rename_i e1 e2; rw [e1, e2]
      · cases hy
    · cases hx
  · rw [hview];simp only [mk];unfold Fr.val;by_cases hb : n < Ft
    · rw [if_pos hb];have he : ((⟨vs⟩ : Array Value) ++ Array.replicate (N' - (⟨vs⟩ : Array Value).size) undef).getD n undef = (vs[n]?).getD undef := by
       rw [Array.getD_eq_getD_getElem?];by_cases hn : n < vs.length
       · rw [Array.getElem?_append_left (by simpa using hn)]; simp
       · rw [Array.getElem?_append_right (by simpa using hn)];rw [List.getElem?_eq_none (by omega)];simp only [Array.getElem?_replicate, Option.getD_none];split <;> rfl
      rw [he];have := Fu 0 n hc;simp only [Nat.zero_le, if_true, Nat.sub_zero] at this;by_cases hn : n < args.length
      · rw [hap 0 args n _ (Nat.zero_le n) (by omega)]; exact this
      · rw [hgl 0 args n _ fun i h1 h2 => by omega];have : n ≠ 1000000 := fun e => by rw [e] at hb; exact Nat.lt_irrefl _ hb
        simp only [lk, if_neg this, Conc]
    · rw [if_neg hb, hgl 0 args n _ fun i h1 h2 => by omega];simp only [lk];split
      · exact Qf hp (hR.own g blk hsg)
      · simp only [Conc]
 refine Calls.mono (Jm hm hf rfl hR0.fr (fun b hb => by
  obtain ⟨n, hn, x, h1, h2⟩ := hb;exact (hR.own n x h1).lt h2) hR0 U0 (hrun F')) fun e w' he => ?_
 obtain ⟨v, ρ', s', a', y, rfl, hR', hy, hyx, m, ht, hm'⟩ := he;subst hyx;have hadr : ρ g = ρ' m := by
  have h1 := hR'.tmps 1000000;rw [ht] at h1;have e : F'.val a' 1000000 = ρ g := by
   unfold Fr.val;rw [if_neg (show ¬ (1000000 : Nat) < Ft from Nat.lt_irrefl _)]
  rw [e] at h1;exact Xb (hpp m) hp (Qf hp (hR.own g blk hsg)) h1
 have hout2 : ∀ b, F.out ρ (s.hup [.upd g blk']).h b → F'.out ρ' s'.h b := fun b hb => by
  rcases hb with ⟨n, z, h1, h2⟩ | hb
  · by_cases hn : n = g
    · subst hn;exact .inl ⟨m, blk', hm', by rw [← hadr]; exact h2⟩
    · have h1' : s.h n = some z := by simpa [FS.hup, FS.seth, hn] using h1
      exact .inr (.inl ((hoth b).2 ⟨n, hn, z, h1', h2⟩))
  · exact .inr (.inr hb)
 have hV2 : (Ao w' (F'.out ρ' s'.h)).le (Ao w' (F.out ρ (s.hup [.upd g blk']).h)) := A0 fun b c ho hc => ⟨fun hb => ho (hout2 b hb), hc⟩
 have hout1 : ∀ b, F.out ρ (s.hup [.upd g blk']).h b ↔ F.out ρ s.h b := fun b => by
  refine or_congr_left ⟨?_, ?_⟩
  · rintro ⟨n, z, h1, h2⟩;by_cases hn : n = g
    · subst hn; exact ⟨n, blk, hsg, h2⟩
    · exact ⟨n, z, by simpa [FS.hup, FS.seth, hn] using h1, h2⟩
  · rintro ⟨n, z, h1, h2⟩;by_cases hn : n = g
    · subst hn; exact ⟨n, blk', by simp [FS.hup, FS.seth], h2⟩
    · exact ⟨n, z, by simpa [FS.hup, FS.seth, hn] using h1, h2⟩
 have hkeep : ∀ b, b < w.heap.size → Bl (ρ g) ≠ some b → w'.heap[b]? = w.heap[b]? := fun b hb hn => hR'.fr.block b hb fun hmi => hn ((hmine b).1 hmi);have hV1 : (vw F w ρ s).le (Ao w' (F.out ρ (s.hup [.upd g blk']).h)) := A0 fun b c ho hc => by
  refine ⟨fun hb => ho ((hout1 b).1 hb), ?_⟩;have hlt : b < w.heap.size := by
   unfold Cx at hc;cases hx : w.heap[b]? with
   | none => rw [hx] at hc; cases hc
   | some o => exact (Array.getElem?_eq_some_iff.1 hx).1
  rw [Bv (hkeep b hlt fun e => ho (.inl ⟨g, blk, hsg, e⟩))];exact hc
 refine ⟨v, ρ, rfl, ⟨⟨hR'.fr.os.trans hR.fr.os, hR'.fr.tape.trans hR.fr.tape, hR'.fr.output.trans hR.fr.output, Nat.le_trans hR.fr.size hR'.fr.size, fun b hlt hM => ?_, hR.fr.hid, hR.fr.tab⟩, fun b hb => ?_, fun n z hz => ?_, fun n k z z' b hn hk hbn hbk => ?_, fun n => (hR.tmps n).mono hV1, hR.size, hR.defers⟩, Bz hV2 hx hy⟩
 · rw [hkeep b (Nat.lt_of_lt_of_le hlt hR.fr.size) fun e => ?_]
   · exact hR.fr.block b hlt hM
   · rcases hR.may b ⟨g, blk, hsg, e⟩ with h1 | h1
     · omega
     · exact hM h1
 · obtain ⟨n, z, h1, h2⟩ := hb;by_cases hn : n = g
   · subst hn; exact hR.may b ⟨n, blk, hsg, h2⟩
   · exact hR.may b ⟨n, z, by simpa [FS.hup, FS.seth, hn] using h1, h2⟩
 · by_cases hn : n = g
   · subst hn;have e : z = blk' := by simpa [FS.hup, FS.seth] using hz.symm
     subst e;exact Own.closed hb' hV2 hadr (hR'.own m _ hm')
   · have h1 : s.h n = some z := by simpa [FS.hup, FS.seth, hn] using hz
     refine (hR.own n z h1).congr hV1 fun b hb => hkeep b ((hR.own n z h1).lt hb) fun e => hn (hR.inj n g z blk b h1 hsg hb e)
 · have f : ∀ (q : Nat) (y : Blk), (s.hup [.upd g blk']).h q = some y → ∃ y', s.h q = some y' := fun q y hq => by
    by_cases e : q = g
    · subst e; exact ⟨blk, hsg⟩
    · exact ⟨y, by simpa [FS.hup, FS.seth, e] using hq⟩
   obtain ⟨z1, e1⟩ := f n z hn;obtain ⟨z2, e2⟩ := f k z' hk;exact hR.inj n k z1 z2 b e1 e2 hbn hbk
end Go.Proofs.Ytagpocgklmeoiaa.Fw
namespace Go.Proofs.Ytagpocgklmeoiaa.Fw
open Go.RowKit
variable {P : Program}
theorem Ajr (hm : P.follows .mixedOrders = true) {f N' : Nat} {rs : List Rv} {c : C} (hf : A8 P f = some (N', rs, c)) {args : List SV} {h : Nat → Option Blk} {d : Nat} {sz : Nat} {es : List (List PV)} (hlen : args.length ≤ N')
 (hts : Br args = A2 args)
 (hrun : ∀ F, sx (Yn P F N') c (Tj rs fun y g => ∃ n es2 m, y = .ov n sz 0 m ∧ g n = some (.row sz es2) ∧ es = es2.take m) (mk (Cn 0 args) (Gf h (Br args)))) :
 FunOk P f args h d (.os d) ((Br args).map .del ++ [.new d (.row sz es)]) := by
 refine ⟨Cb hf, fun F N ρ s a w hR hh vs hc => ?_⟩;rw [hts];rw [hts] at hrun;generalize htt : A2 args = ts at *
 let F' : Fr := ⟨w, P3 ρ s.h ts, F.out ρ (Ay s ts).h, fun _ => undef, []⟩
 have hvl : vs.length = args.length := by
  clear hrun hlen hts hh htt
  induction args generalizing vs with
  | nil => simp only [ConcL] at hc; subst hc; rfl
  | cons x l ih =>
    simp only [ConcL] at hc;obtain ⟨v, us, rfl, _, h⟩ := hc;simp [ih _ h]
 have hlk : ∀ n, (mk (Cn 0 args) (Gf h ts)).h n = if n ∈ ts then s.h n else none := fun n => by
  simp only [mk, X0];split
  · rename_i hn; rw [hh n hn]
  · rfl
 have how : ∀ b, Bd ρ (mk (Cn 0 args) (Gf h ts)).h b ↔ P3 ρ s.h ts b := fun b => by
  constructor
  · rintro ⟨n, x, h1, h2⟩;rw [hlk] at h1; split at h1
    · rename_i hn; exact ⟨n, hn, x, h1, h2⟩
    · cases h1
  · rintro ⟨n, hn, x, h1, h2⟩;exact ⟨n, x, by rw [hlk, if_pos hn]; exact h1, h2⟩
 have hoth : ∀ b, Bd ρ (Ay s ts).h b ↔ ∃ n, n ∉ ts ∧ ∃ x, s.h n = some x ∧ Bl (ρ n) = some b := fun b => by
  constructor
  · rintro ⟨n, x, h1, h2⟩;simp only [Ay] at h1; split at h1
    · cases h1
    · rename_i hn; exact ⟨n, hn, x, h1, h2⟩
  · rintro ⟨n, hn, x, h1, h2⟩;exact ⟨n, x, by simp only [Ay, if_neg hn]; exact h1, h2⟩
 have hview : Ao w (F'.out ρ (mk (Cn 0 args) (Gf h ts)).h) = vw F w ρ s := by
  show Ao w _ = Ao w _;congr 1;funext b;refine propext ⟨fun hb => ?_, fun hb => ?_⟩
  · rcases hb with hb | hb
    · obtain ⟨n, _, x, h1, h2⟩ := (how b).1 hb; exact .inl ⟨n, x, h1, h2⟩
    · rcases hb with hb | hb
      · obtain ⟨n, _, x, h1, h2⟩ := (hoth b).1 hb; exact .inl ⟨n, x, h1, h2⟩
      · exact .inr hb
  · rcases hb with ⟨n, x, h1, h2⟩ | hb
    · by_cases hn : n ∈ ts
      · exact .inl ((how b).2 ⟨n, hn, x, h1, h2⟩)
      · exact .inr (.inl ((hoth b).2 ⟨n, hn, x, h1, h2⟩))
    · exact .inr (.inr hb)
 have hR0 : RelR F' N' ρ (mk (Cn 0 args) (Gf h ts)) { tmps := (⟨vs⟩ : Array Value) ++ Array.replicate (N' - (⟨vs⟩ : Array Value).size) undef, defers := [] } w := by
  refine ⟨⟨rfl, rfl, rfl, Nat.le_refl _, fun _ _ _ => rfl, fun b hb => ⟨?_, fun hmi => ?_⟩, ⟨hR.tabW, fun p hp ⟨n, hn, x, h1, h2⟩ => hR.tabN hp ⟨n, x, h1, h2⟩⟩⟩, fun b hb => .inr ((how b).1 hb), fun n x hx => ?_, fun n m x y b hx hy hbx hby => ?_, fun n => ?_, by simp; omega, rfl⟩
  · rcases hb with hb | hb
    · obtain ⟨n, _, x, h1, h2⟩ := (hoth b).1 hb; exact (hR.own n x h1).lt h2
    · exact Nat.lt_of_lt_of_le (hR.fr.hid b hb).1 hR.fr.size
  · obtain ⟨n, hn, x, h1, h2⟩ := hmi;rcases hb with hb | hb
    · obtain ⟨m, hm, y, g1, g2⟩ := (hoth b).1 hb;exact hm (by rw [hR.inj m n y x b g1 h1 g2 h2]; exact hn)
    · exact hR.shown ⟨n, x, h1, h2⟩ hb
  · rw [hview];rw [hlk] at hx; split at hx
    · exact hR.own n x hx
    · cases hx
  · rw [hlk] at hx hy;split at hx
    · split at hy
      · exact hR.inj n m x y b hx hy hbx hby
      · cases hy
    · cases hx
  · rw [hview];have := Fu 0 n hc;simp only [Nat.zero_le, if_true, Nat.sub_zero] at this;simp only [mk];have he : ((⟨vs⟩ : Array Value) ++ Array.replicate (N' - (⟨vs⟩ : Array Value).size) undef).getD n undef = (vs[n]?).getD undef := by
     rw [Array.getD_eq_getD_getElem?];by_cases hn : n < vs.length
     · rw [Array.getElem?_append_left (by simpa using hn)]; simp
     · rw [Array.getElem?_append_right (by simpa using hn)];rw [List.getElem?_eq_none (by omega)];simp only [Array.getElem?_replicate, Option.getD_none];split <;> rfl
    have hN := Nt hf;unfold Fr.val;by_cases hb : n < Ft
    · rw [if_pos hb, he]; exact this
    · rw [if_neg hb];rw [List.getElem?_eq_none (by omega)] at this; exact this
 refine Calls.mono (Afy hm hf rfl hR0.fr (fun b ⟨n, hn, x, h1, h2⟩ => (hR.own n x h1).lt h2) hR0 (hrun F')) fun e w' he => ?_;obtain ⟨v, ρ', s', a', y, rfl, hR', hy, n, es2, m0, rfl, hn, rfl⟩ := he;simp only [Conc] at hy;obtain ⟨base, len, cap, base', y1, y2, y3, y4, y5⟩ := hy;obtain ⟨base2, cap2, g1, g2, g3, g4, g5⟩ := hR'.own n _ hn;rw [g1] at y1; cases y1;have hb' := (y5 (.inr trivial)).trans (R7 base sz);subst hb';rw [Nat.sub_zero, Nat.sub_zero] at y4;have hml : (es2.take m0).length = m0 := by simp; omega
 have hide : Bl v = Bl (ρ' n) := by
  rw [y4, g1];cases base' <;> simp [Bl]
 have hv1 : Au v := by rw [y4]; trivial
 have ho : ∀ b, Bl v = some b → Bd ρ' s'.h b := fun b hb => ⟨n, _, hn, by rw [← hide]; exact hb⟩
 have hid : ∀ b, Bl v = some b → (w.heap.size ≤ b ∧ b < w'.heap.size) ∨ P3 ρ s.h ts b := fun b hb => by
  rcases hR'.may b (ho b hb) with h1 | h1
  · exact .inl ⟨h1, hR'.lt (ho b hb)⟩
  · exact .inr h1
 have hres := hR.swapin (w' := w') ts d (.row sz (es2.take m0)) v hR'.fr.os hR'.fr.tape hR'.fr.output hR'.fr.size hR'.fr.block hid (by
  refine ⟨base', cap, by rw [Al, hml]; exact y4, by omega, g3, fun c hc => g4 c (List.mem_of_mem_take hc), fun hcap => ?_⟩;obtain ⟨b, vs', ty, fr, k1, k2, k3, k4, k5, k6⟩ := g5 hcap;refine ⟨b, vs', ty, fr, k1, k2, k3, k4, k5, fun i c hi => ?_⟩;rw [List.getElem?_take] at hi;split at hi
  · refine (k6 i c hi).mono (A0 fun b' c' hno hc' => ⟨fun hb' => hno ?_, hc'⟩);rcases hb' with ⟨m, z, hm1, hm2⟩ | hb'
    · simp only [Ay, FS.seth, FS.kill] at hm1;by_cases hmd : m = d
      · subst hmd;rw [Al, hide] at hm2;exact .inl ⟨n, _, hn, hm2⟩
      · rw [A3 hmd] at hm2;simp only [hmd, if_false] at hm1;by_cases hmt : m ∈ ts
        · simp [hmt] at hm1
        · simp only [hmt, if_false] at hm1;obtain ⟨z', hz', _⟩ := Option.map_eq_some_iff.1 hm1;exact .inr (.inl ((hoth b').2 ⟨m, hmt, z', hz', hm2⟩))
    · exact .inr (.inr hb')
  · cases hi)
 have e1 : s.hup (List.map HU.del ts ++ [HU.new d (Blk.row sz (es2.take m0))]) = ((Ay s ts).kill d).seth d (some (.row sz (es2.take m0))) := by rw [Yb]; rfl
 refine ⟨v, Fw.upd ρ d v, rfl, by rw [e1]; exact hres.1, ?_⟩;simp only [Conc];exact ⟨by rw [Al], hv1⟩
theorem Aon (hm : P.follows .mixedOrders = true) {f N' : Nat} {rs : List Rv} {c : C} (hf : A8 P f = some (N', rs, c)) {args : List SV} {h : Nat → Option Blk} {d : Nat} {x : SV} (hlen : args.length ≤ N')
 (hargs : Bh args = true) (hx : x.scalar = true) (hrun : ∀ F, sx (Yn P F N') c (Tj rs fun y g => ∃ n, y = .p n 0 ∧ g n = some (.var x)) (mk (Cn 0 (Dg h args)) [])) :
 FunOk P f args h d (.p d 0) [.new d (.var x)] := by
 refine ⟨Cb hf, fun F N ρ s a w hR hh vs hc => ?_⟩;refine Calls.mono (Df hm hf (h := h) hlen hargs Kb hrun hR hh hc) fun e w' he => ?_;obtain ⟨v, rfl, hg, N'', ρ', s', a', y, hR', hy, n, rfl, hn⟩ := he;simp only [Conc] at hy;obtain ⟨b0, hy1, hy2⟩ := hy;obtain ⟨b, vs', ty, fr, u, g1, g2, g3, g4, g5, g6, g7⟩ := hR'.own n _ hn;have hown : ∀ b, Bl (ρ' n) = some b → w.heap.size ≤ b ∧ b < w'.heap.size := fun b hb => by
  have ho : Bd ρ' s'.h b := ⟨n, _, hn, hb⟩
  exact ⟨(hR'.may b ho).resolve_right id, hR'.lt ho⟩
 have hnew := hR.adopt hg d (.var x) (ρ' n) hown fun hV => ⟨b, vs', ty, fr, u, by rw [Al]; exact g1, g2, g3, Cy hx g4, g5, g6, g7⟩
 refine ⟨v, _, rfl, hnew.1, ?_⟩;simp only [Conc];exact ⟨b0, by rw [Al]; exact hy1, hy2⟩
end Go.Proofs.Ytagpocgklmeoiaa.Fw
namespace Go.Proofs.Ytagpocgklmeoiaa.Fw
open Go.RowKit
variable {P : Program} {F : Fr} {N : Nat} {ρ ρ' : Nat → Value} {s : FS} {a : Act} {w w' : World} {V V' : View}
theorem FunOk.lend {f : Nat} {args : List SV} {h h' : Nat → Option Blk} {d d' : Nat} {x : SV} {n sz : Nat} {es : List (List PV)} (hn : h n = some (.row sz es)) (hin : n ∈ A2 args)
 (hc : A2 (SV.frzL n (.sl false sz es) args) = []) (hx : x.scalar = true) (hf : FunOk P f (SV.frzL n (.sl false sz es) args) h' d' x []) : FunOk P f args h d x [] := by
 refine ⟨hf.1, fun F N ρ s a w hR hh vs hv => ?_⟩;have hs := (hh n hin).trans hn
 let F2 : Fr := ⟨w, fun _ => False, F.out ρ (Ay s [n]).h, fun _ => undef, []⟩
 have hRb := hR.weak (Ir s [n]);have hR2 : RelR F2 0 ρ ⟨fun _ => .dead, fun _ => none⟩ ⟨#[], []⟩ w :=
  ⟨⟨rfl, rfl, rfl, Nat.le_refl _, fun _ _ _ => rfl, fun b hb => ⟨by
   rcases hb with hb | hb
   · exact hRb.lt hb
   · exact Nat.lt_of_lt_of_le (hR.fr.hid b hb).1 hR.fr.size, id⟩, ⟨hR.tabW, fun _ _ => id⟩⟩, fun b ⟨n, x, h, _⟩ => by simp at h, fun n x h => by simp at h, fun n m x y b h => by simp at h, fun n => by simp only [Conc], rfl, rfl⟩
 have hV : (vw F w ρ s).le (vw F2 w ρ ⟨fun _ => .dead, fun _ => none⟩) := A0 fun b c ho hc => ⟨fun hb => by
  rcases hb with ⟨n, x, h, _⟩ | hb
  · simp at h
  · rcases hb with ⟨k, x, h1, h2⟩ | hb
    · simp only [Ay] at h1;split at h1
      · cases h1
      · exact ho (.inl ⟨k, x, h1, h2⟩)
    · exact ho (.inr hb), hc⟩
 have hp : PConc (vw F2 w ρ ⟨fun _ => .dead, fun _ => none⟩) (.sl false sz es) (ρ n) := (L6 hR hs).mono (A0 fun b c ho hc => ⟨fun hb => by
  rcases hb with ⟨n, x, h, _⟩ | hb
  · simp at h
  · rcases hb with ⟨k, x, h1, h2⟩ | hb
    · simp only [Ay, List.mem_singleton] at h1;split at h1
      · cases h1
      · rename_i hk;exact ho (.inl ⟨k, x, by simp only [FS.seth, if_neg hk]; exact h1, h2⟩)
    · exact ho (.inr hb), hc⟩)
 refine Calls.mono (hf.2 F2 0 ρ _ _ w hR2 (by rw [hc]; simp) vs (ConcL.frz hV hp hv)) fun e w' he => ?_;obtain ⟨v, ρ', rfl, hR', hy⟩ := he;exact ⟨v, ρ, rfl, hR.grew ⟨hR'.fr.os, hR'.fr.tape, hR'.fr.output, hR'.fr.size, fun b hb => hR'.fr.block b hb id⟩, Cy hx hy⟩
theorem Ps : ∀ {a b : List SV} {vs : List Value}, Cells V ρ (a ++ b) vs → ∃ va vb, vs = va ++ vb ∧ Cells V ρ a va ∧ Cells V ρ b vb
 | [], b, vs, h => ⟨[], vs, rfl, by simp only [Cells], h⟩
 | x :: a, b, vs, h => by
   simp only [List.cons_append, Cells] at h;obtain ⟨u, us, rfl, h1, h2, h3, h4⟩ := h;obtain ⟨va, vb, rfl, h5, h6⟩ := Ps h4;exact ⟨Am u ++ va, vb, by rw [List.append_assoc], by simp only [Cells]; exact ⟨u, va, rfl, h1, h2, h3, h5⟩, h6⟩
theorem St : ∀ {a b : List SV} {va vb : List Value}, Cells V ρ a va → Cells V ρ b vb → Cells V ρ (a ++ b) (va ++ vb)
 | [], b, va, vb, h, k => by simp only [Cells] at h; subst h; exact k
 | x :: a, b, va, vb, h, k => by
   simp only [Cells] at h;obtain ⟨u, us, rfl, h1, h2, h3, h4⟩ := h;simp only [List.cons_append, Cells];exact ⟨u, us ++ vb, by rw [List.append_assoc], h1, h2, h3, St h4 k⟩
end Go.Proofs.Ytagpocgklmeoiaa.Fw
