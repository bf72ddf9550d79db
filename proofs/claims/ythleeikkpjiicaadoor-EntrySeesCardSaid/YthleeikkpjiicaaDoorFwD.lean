/- Loops, calls and loops over functions of the small language do in the model what their meaning tells. -/
import Derived.Test.YthleeikkpjiicaaDoorFwC
set_option linter.unusedVariables false
set_option linter.unusedSimpArgs false
set_option linter.unusedSectionVars false
namespace Go.Proofs.YthleeikkpjiicaaDoor.Fw
open Go.RowKit
variable {P : Program} {F : Fr} {N : Nat} {ρ ρ' : Nat → Value} {s : FS} {a : Act} {w w' : World} {V V' : View}
def Cd : Nat → List SV → List (Nat × SV)
 | _, [] => []
 | k, x :: l => (k, x) :: Cd (k + 1) l
inductive Rv where
 | t (n : Nat)
 | c (a size : Nat) (ag : Bool)
def Fk (s : FS) : List Rv → (List SV → Prop) → Prop
 | [], K => K []
 | .t n :: rs, K => Fk s rs fun l => K (s.t n :: l)
 | .c a size ag :: rs, K => D5 s.h size ag (s.t a) fun x u => u = [] ∧ Fk s rs fun l => K (x :: l)
def one : List SV → SV
 | [x] => x
 | l => .tup l
def Am0 (rs : List Rv) (R : SV → FS → Prop) : Bd
 | .normal, s => Fk s rs fun l => R (one l) s
 | .ret, s => Fk s rs fun l => R (one l) s
 | _, _ => False
def Nk (rs : List Rv) (R : SV → FS → Prop) (s : FS) : Prop := ∃ s', Wk s s' ∧ Fk s' rs fun l => R (one l) s'
def Ael (rs : List Rv) (R : SV → FS → Prop) : Bd
 | .normal, s => Nk rs R s
 | .ret, s => Nk rs R s
 | _, _ => False
def Tr (rs : List Rv) (R : SV → (Nat → Option Blk) → Prop) : Bd := Am0 rs fun y s => R y s.h
def Qj (P : Program) : ResultVar → Option Rv
 | .tmp t => if t < D4 then some (.t t) else none
 | .cell a t => match Ad P t, Cs P t with
   | some sz, some ag => if sz = 0 ∨ D4 ≤ a then none else some (.c a sz ag)
   | _, _ => none
def Bc (P : Program) (f : Nat) : Option (Nat × List Rv × C) := match P.funcs[f]? with
 | some fn => match fn.body, Af (fn.results.toList.map (Qj P)) with
   | some code, some rs => if fn.name = "runtime.NumGoroutine" ∨ D4 < fn.ntmps then none else (A1 P fn.ntmps code).map fun c => (fn.ntmps, rs, c)
   | _, _ => none
 | none => none
theorem Mq {f : Nat} {rs : List Rv} {c : C} (h : Bc P f = some (N, rs, c)) : ∃ fn code, P.funcs[f]? = some fn ∧ fn.name ≠ "runtime.NumGoroutine" ∧ fn.body = some code ∧ fn.ntmps = N ∧ Af (fn.results.toList.map (Qj P)) = some rs ∧ A1 P N code = some c := by
 unfold Bc at h;split at h
 · rename_i fn hf;split at h
   · rename_i code rs' hb hr;split at h
     · cases h
     · rename_i hn;obtain ⟨c', hc, e⟩ := Option.map_eq_some_iff.1 h;cases e;exact ⟨fn, code, hf, fun e => hn (.inl e), hb, rfl, hr, hc⟩
   · cases h
 · cases h
theorem Mr {f : Nat} {rs : List Rv} {c : C} (h : Bc P f = some (N, rs, c)) : N ≤ D4 := by
 unfold Bc at h;split at h
 · split at h
   · split at h
     · cases h
     · rename_i hn;obtain ⟨c', hc, e⟩ := Option.map_eq_some_iff.1 h;cases e;exact Nat.le_of_not_lt fun e => hn (.inr e)
   · cases h
 · cases h
theorem Y9 {t : TypeId} {x v : Value} (h : (Instr.loadAt t x).run P w = .ok v w) : (do loadVar t (← asAddr x) : Sem Value).run P w = .ok v w := by
 unfold Instr.loadAt at h;cases x <;> first | exact h | skip
 all_goals first | (rename_i o; cases o <;> first | exact h | (cases h)) | (cases h)
theorem V4 (tmps : Array Value) (g : ResultVar → Sem Value) (hg : ∀ t, g (.tmp t) = pure (tmps.getD t undef)) (hg' : ∀ a t v, (Instr.loadAt t (tmps.getD a undef)).run P w = .ok v w → (g (.cell a t)).run P w = .ok v w) (hR : RelR F N ρ s a w) (ht : a.tmps = tmps) :
 ∀ (vars : List ResultVar) (rs : List Rv) (K : List SV → Prop) (acc : Array Value), Af (vars.map (Qj P)) = some rs → Fk s rs K →
  ∃ l vs, K l ∧ ConcL (vw F w ρ s) ρ l vs ∧ (List.foldlM (fun (bs : Array Value) r => bs.push <$> g r) acc vars).run P w = .ok (acc ++ (⟨vs⟩ : Array Value)) w
 | [], rs, K, acc, h, hk => by
   simp only [List.map_nil, Af, Option.some.injEq] at h;subst h;exact ⟨[], [], hk, by simp only [ConcL], by simp⟩
 | x :: vars, rs, K, acc, h, hk => by
   obtain ⟨r, rs', rfl, h1, h2⟩ := Aq (show Af (Qj P x :: vars.map (Qj P)) = some rs from h);have key : ∀ (v : Value) (y : SV), (g x).run P w = .ok v w → Conc (vw F w ρ s) ρ y v → (Fk s rs' fun l => K (y :: l)) →
    ∃ l vs, K l ∧ ConcL (vw F w ρ s) ρ l vs ∧ (List.foldlM (fun (bs : Array Value) r => bs.push <$> g r) acc (x :: vars)).run P w = .ok (acc ++ (⟨vs⟩ : Array Value)) w := fun v y hv hy hk' => by
    obtain ⟨l, vs, k1, k2, k3⟩ := V4 tmps g hg hg' hR ht vars rs' _ (acc.push v) h2 hk';refine ⟨y :: l, v :: vs, k1, by simp only [ConcL]; exact ⟨v, vs, rfl, hy, k2⟩, ?_⟩;rw [List.foldlM_cons];have : (acc.push <$> g x : Sem (Array Value)).run P w = .ok (acc.push v) w := by
     rw [← bind_pure_comp];rw [Aa hv]; rfl
    rw [Aa this, k3];congr 1;exact Array.toList_inj.1 (by simp)
   cases x with
   | tmp t =>
     simp only [Qj] at h1;split at h1
     · rename_i hb;simp only [Option.some.injEq] at h1;subst h1;simp only [Fk] at hk;refine key (tmps.getD t undef) (s.t t) (by rw [hg]; rfl) ?_ hk;rw [← ht]; exact hR.tm t hb
     · cases h1
   | cell b t =>
     simp only [Qj] at h1;split at h1
     · rename_i sz ag hsz hag;split at h1
       · cases h1
       · rename_i hne;simp only [Option.some.injEq] at h1;subst h1;simp only [Fk] at hk;obtain ⟨v, y, g1, g2, g3⟩ := Aim (P := P) hR (hR.tm b (by omega)) (by omega) hsz hag hk;exact key v y (hg' b t v (by rw [← ht]; exact g1)) g3 g2.2
     · cases h1
theorem Lq {fn : Func} {rs : List Rv} (hR : RelR F N ρ s a w) (h : Af (fn.results.toList.map (Qj P)) = some rs) {K : List SV → Prop} (hk : Fk s rs K) :
 ∃ l v, K l ∧ Conc (vw F w ρ s) ρ (one l) v ∧ (results fn a.tmps).run P w = .ok v w := by
 unfold results;rw [Array.mapM_eq_foldlM];rw [← Array.foldlM_toList];obtain ⟨l, vs, h1, h2, h3⟩ := V4 (P := P) a.tmps (fun x => match x with
  | .tmp t => pure (a.tmps.getD t undef)
  | .cell b t => do loadVar t (← asAddr (a.tmps.getD b undef))) (fun _ => rfl) (fun b t v hv => Y9 hv) hR rfl fn.results.toList rs K #[] h hk
 refine ⟨l, _, h1, ?_, (Aa h3).trans rfl⟩;cases l with
 | nil => simp only [ConcL] at h2; subst h2; simp only [one, Conc]; exact ⟨[], rfl, by simp only [ConcL]⟩
 | cons x l =>
   simp only [ConcL] at h2;obtain ⟨v, us, rfl, h4, h5⟩ := h2;cases l with
   | nil => simp only [ConcL] at h5; subst h5; simpa [one] using h4
   | cons y l =>
     have h5' := h5;simp only [ConcL] at h5;obtain ⟨v', us', rfl, h6, h7⟩ := h5;simp only [one, Conc];refine ⟨v :: v' :: us', ?_, by simp only [ConcL]; exact ⟨v, _, rfl, h4, v', us', rfl, h6, h7⟩⟩;simp
theorem Ed : ∀ {args : List SV} {vs : List Value} (k : Nat) (n : Nat), ConcL V ρ args vs → Conc V ρ (lk .dead n (Cd k args)) (if k ≤ n then (vs[n - k]?).getD undef else undef)
 | [], vs, k, n, h => by simp [Cd, lk, Conc]
 | x :: l, vs, k, n, h => by
   simp only [ConcL] at h;obtain ⟨v, us, rfl, h1, h2⟩ := h;simp only [Cd, lk];split
   · rename_i e; subst e; simp; exact h1
   · rename_i e;have := Ed (k + 1) n h2;by_cases hk : k ≤ n
     · have hk' : k + 1 ≤ n := by omega
       rw [if_pos hk'] at this;rw [if_pos hk];have : n - k = (n - (k + 1)) + 1 := by omega
       rw [this]; simpa using Ed (k + 1) n h2 |> fun q => by rw [if_pos hk'] at q; exact q
     · rw [if_neg (by omega)] at this;rw [if_neg hk]; exact this
theorem RelR.obj (h : RelR F N ρ s a w) {l : Nat} {o : Obj} (o' : Obj) (hl : w.heap[l]? = some o) (ho : o.isCells = false) (hlt : l < F.w0.heap.size) (hM : ¬ F.M0 l) : RelR { F with w0 := F.w0.putObj l o' } N ρ s a (w.putObj l o') := by
 have hlw : l < w.heap.size := (Array.getElem?_eq_some_iff.1 hl).1;have hne : ∀ b, Bb ρ s.h b → b ≠ l := fun b hb e => by
  subst e;rcases h.may b hb with h1 | h1
  · omega
  · exact hM h1
 have hV : (Aj w (F.out ρ s.h)).le (Aj (w.putObj l o') (F.out ρ s.h)) := A8 fun b c ho' hc => by
  refine ⟨ho', ?_⟩;have : b ≠ l := fun e => by
   subst e;unfold Bn at hc;rw [hl] at hc;cases o <;> simp_all [Obj.isCells]
  rw [Bi (World.putObj_heap_other this)]; exact hc
 refine ⟨⟨h.fr.os, h.fr.tape, h.fr.output, by simpa using h.fr.size, fun b hb hm => ?_, fun b hb => by simpa using h.fr.hid b hb, ⟨fun p hp => ?_, h.fr.tab.2⟩⟩, fun b hb => by simpa using h.may b hb, fun n x hx => ?_, h.inj, fun n => (h.tmps n).mono hV, h.size, h.defers⟩
 · by_cases e : b = l
   · subst e;rw [World.putObj_heap_same hlw, World.putObj_heap_same hlt]
   · rw [World.putObj_heap_other e, World.putObj_heap_other e];exact h.fr.block b (by simpa using hb) hm
 · have h1 := h.fr.tab.1 p hp;have : p.1 ≠ l := fun e => by
    rw [e] at h1;unfold Bn at h1;rw [← h.fr.block l hlt hM, hl] at h1;cases o <;> simp_all [Obj.isCells]
   show Bn (F.w0.putObj l o') p.1 = _;rw [Bi (World.putObj_heap_other this)]; exact h1
 · exact (h.own n x hx).congr hV fun b hb => World.putObj_heap_other (hne b ⟨n, x, hx, hb⟩)
theorem Desc.back {F0 : Fr} (hd : Desc F0 F) (h : RelR F N ρ s a w) (h0 : F0.defs = []) : RelR F0 N ρ s ⟨a.tmps, []⟩ w := by
 have ho : F.out ρ s.h = F0.out ρ s.h := by unfold Fr.out; rw [hd.hid]
 have hb := hd.base;refine ⟨⟨h.fr.os.trans hb.os, h.fr.tape.trans hb.tape, h.fr.output.trans hb.output, Nat.le_trans hb.size h.fr.size, fun b hlt hm => ?_, hb.hid, hb.tab⟩, fun b hbb => hd.may b (h.may b hbb), fun n x hx => by rw [← ho]; exact h.own n x hx, h.inj, fun n => ?_, h.size, h0.symm⟩
 · rw [h.fr.block b (Nat.lt_of_lt_of_le hlt hb.size) fun e => ?_]
   · exact hb.block b hlt hm
   · rcases hd.may b (.inr e) with h1 | h1
     · omega
     · exact hm h1
 · rw [← ho];have := h.tmps n;unfold Fr.val at this ⊢;rw [← hd.x]; exact this
theorem Desc.refl {F0 : Fr} (hR : F0.ok F0.w0) (hm : ∀ b, F0.M0 b → b < F0.w0.heap.size) (h0 : F0.defs = []) : Desc F0 F0 := ⟨hR, hm, fun _ h => h, rfl, rfl, by rw [h0]; trivial⟩
theorem Ss {fn : Func} {rs : List Rv} (h5 : Af (fn.results.toList.map (Qj P)) = some rs) {F0 : Fr} (h0 : F0.defs = []) {R : Ending → World → Prop} {tm : Array Value} {K : List SV → Prop} (hk : Fk s rs K)
 (hend : ∀ l v w, K l → RelR F0 N ρ s ⟨tm, []⟩ w → Conc (vw F0 w ρ s) ρ (one l) v → R (.returned v) w) :
 ∀ (ds : List Deferred) {F : Fr} {w : World}, Desc F0 { F with defs := [] } → Tt F0 F ds → RelR { F with defs := [] } N ρ s ⟨tm, []⟩ w → LeavesInM (Gd none) 0 P fn tm R ds .returning w
 | [], F, w, hd, _, hR => by
   have hR' := hd.back hR h0;obtain ⟨l, v, k1, k2, k3⟩ := Lq (P := P) hR' h5 hk;exact ⟨v, k3, hend l v w k1 hR' k2⟩
 | d :: ds, F, w, hd, hm, hR => by
   obtain ⟨⟨D, rfl, g1, g2, g3, g4, g5⟩, hm⟩ := hm;have hw : w.heap[D]? = some (.deferred (some [])) := (hR.fr.block D g2 g3).trans g4;refine ⟨by simp, .inl ⟨D, _, rfl, run_takeDeferred hw, ?_⟩⟩;have hR2 := hR.obj (.deferred none) hw rfl g2 g3;refine Ss h5 h0 hk hend ds (F := { F with w0 := F.w0.putObj D (.deferred none) }) ⟨?_, fun b hb => by simpa using hd.m0 b hb, fun b hb => hd.may b (by simpa using hb), hd.hid, hd.x, trivial⟩ ?_ hR2
   · have hb := hd.base;refine ⟨hb.os, hb.tape, hb.output, by simpa using hb.size, fun b hlt hm => ?_, hb.hid, hb.tab⟩;show (F.w0.putObj D (.deferred none)).heap[b]? = _;rw [World.putObj_heap_other (by omega)];exact hb.block b hlt hm
   · clear hR hR2 hw
     induction ds with
     | nil => trivial
     | cons e ds ih =>
       obtain ⟨⟨E, rfl, k1, k2, k3, k4, k5⟩, hm⟩ := hm;have hne : E ≠ D := fun h => g5 _ List.mem_cons_self (by rw [h]);exact ⟨⟨E, rfl, k1, by simpa using k2, k3, by rw [World.putObj_heap_other hne]; exact k4, k5⟩, ih hm (fun e he => g5 e (List.mem_cons_of_mem _ he))⟩
theorem I2 (hm : P.follows .mixedOrders = true) {f N' : Nat} {rs : List Rv} {c : C} (hf : Bc P f = some (N', rs, c)) {F0 : Fr} {s0 : FS} {vs : List Value} (h0 : F0.defs = []) (hok : F0.ok F0.w0) (hm0 : ∀ b, F0.M0 b → b < F0.w0.heap.size)
 (hR : RelR F0 N' ρ s0 { tmps := (⟨vs⟩ : Array Value) ++ Array.replicate (N' - (⟨vs⟩ : Array Value).size) undef, defers := [] } w) {R : SV → FS → Prop} {Q : Bd} (hQ : ∀ e s, Q e s → (e = .normal ∨ e = .ret) ∧ Nk rs R s) (hrun : sx (Zp P F0 N') c Q s0) :
 Calls P f ⟨vs⟩ w fun e w' => ∃ v ρ' s' a' y, e = .returned v ∧ RelR F0 N' ρ' s' a' w' ∧ Conc (vw F0 w' ρ' s') ρ' y v ∧ R y s' := by
 obtain ⟨fn, code, h1, h2, h3, h4, h5, h6⟩ := Mq hf;subst h4;refine callsIn_wide.1 (callsIn_of_wp_marks (F := Gd none) (n := 0) h1 h3 trivial (wpIn_mono (G2 hm h6 hrun ⟨F0, Desc.refl hok hm0 h0, ρ, hR⟩) fun e a' w' he => ?_));have fin : (∃ s, RelX (Desc F0) fn.ntmps s a' w' ∧ Nk rs R s) → LeavesInM (Gd none) 0 P fn a'.tmps (fun e w' => ∃ v ρ' s' a' y, e = .returned v ∧ RelR F0 fn.ntmps ρ' s' a' w' ∧ Conc (vw F0 w' ρ' s') ρ' y v ∧ R y s') a'.defers .returning w' := fun ⟨s1, hX, s', hwk, hr⟩ => by
  obtain ⟨F, hd, ρ', hR'⟩ := hX.wk hwk;rw [hR'.defers];refine Ss h5 h0 hr (fun l v w k1 k2 k3 => ⟨v, ρ', s', _, _, rfl, k2, k3, k1⟩) F.defs (F := F) ⟨hd.base, hd.m0, hd.may, hd.hid, hd.x, trivial⟩ hd.marks ?_;exact ⟨⟨hR'.fr.os, hR'.fr.tape, hR'.fr.output, hR'.fr.size, hR'.fr.block, hR'.fr.hid, hR'.fr.tab⟩, hR'.may, hR'.own, hR'.inj, hR'.tmps, hR'.size, rfl⟩
 cases e with
 | normal => obtain ⟨s, h, hq⟩ := he; exact fin ⟨s, h, (hQ _ _ hq).2⟩
 | ret => obtain ⟨s, h, hq⟩ := he; exact fin ⟨s, h, (hQ _ _ hq).2⟩
 | exit id =>
   obtain ⟨s, h, hq⟩ := he;rcases (hQ _ _ hq).1 with e | e <;> cases e
 | goto _ => exact he.elim
 | panic _ => exact he.elim
 | outgrown => exact he.elim
theorem Wk.same (s : FS) : Wk s s := .weak ⟨fun n => Imp.refl _, fun n b hb => by
 rw [hb];simp only [Yg];cases b with
 | var x => exact ⟨Imp.refl _, rfl⟩
 | row sz es => exact ⟨rfl, rfl⟩
 | rowc sz es c => exact ⟨rfl, rfl, rfl⟩
 | it l p => exact ⟨rfl, rfl⟩⟩
theorem Nl {rs : List Rv} {R : SV → FS → Prop} (e : Ex) (s : FS) (h : Am0 rs R e s) : (e = .normal ∨ e = .ret) ∧ Nk rs R s := by
 cases e with
 | normal => exact ⟨.inl rfl, s, .same s, h⟩
 | ret => exact ⟨.inr rfl, s, .same s, h⟩
 | exit _ => exact h.elim
theorem Aaq {rs : List Rv} {R : SV → FS → Prop} (e : Ex) (s : FS) (h : Ael rs R e s) : (e = .normal ∨ e = .ret) ∧ Nk rs R s := by
 cases e with
 | normal => exact ⟨.inl rfl, h⟩
 | ret => exact ⟨.inr rfl, h⟩
 | exit _ => exact h.elim
theorem U2 (hm : P.follows .mixedOrders = true) {f N' : Nat} {rs : List Rv} {c : C} (hf : Bc P f = some (N', rs, c)) {F0 : Fr} {s0 : FS} {vs : List Value} (h0 : F0.defs = []) (hok : F0.ok F0.w0) (hm0 : ∀ b, F0.M0 b → b < F0.w0.heap.size)
 (hR : RelR F0 N' ρ s0 { tmps := (⟨vs⟩ : Array Value) ++ Array.replicate (N' - (⟨vs⟩ : Array Value).size) undef, defers := [] } w) {R : SV → FS → Prop} (hrun : sx (Zp P F0 N') c (Am0 rs R) s0) :
 Calls P f ⟨vs⟩ w fun e w' => ∃ v ρ' s' a' y, e = .returned v ∧ RelR F0 N' ρ' s' a' w' ∧ Conc (vw F0 w' ρ' s') ρ' y v ∧ R y s' := I2 hm hf h0 hok hm0 hR Nl hrun
theorem Y5 (hm : P.follows .mixedOrders = true) {f : Nat} {rs : List Rv} {c : C} (hf : Bc P f = some (N, rs, c)) {hid : Nat → Prop} (hhid : ∀ b, hid b → b < w.heap.size) (htw : Vo w) {args : List SV} {vs : List Value} (hlen : args.length ≤ N)
 (hc : ConcL (Aj w hid) ρ args vs) {R : SV → FS → Prop} {Q : Bd} (hQ : ∀ e s, Q e s → (e = .normal ∨ e = .ret) ∧ Nk rs R s) (hrun : sx (Zp P ⟨w, fun _ => False, hid, fun _ => undef, []⟩ N) c Q (mk (Cd 0 args) [])) :
 Calls P f ⟨vs⟩ w fun e w' => ∃ v ρ' s' a' y, e = .returned v ∧ RelR ⟨w, fun _ => False, hid, fun _ => undef, []⟩ N ρ' s' a' w' ∧ Conc (vw ⟨w, fun _ => False, hid, fun _ => undef, []⟩ w' ρ' s') ρ' y v ∧ R y s' := by
 obtain ⟨fn, code, h1, h2, h3, h4, h5, h6⟩ := Mq hf;subst h4;have hN := Mr hf;have hvl : vs.length = args.length := by
  clear hrun hlen
  induction args generalizing vs with
  | nil => simp only [ConcL] at hc; subst hc; rfl
  | cons x l ih =>
    simp only [ConcL] at hc;obtain ⟨v, us, rfl, _, h⟩ := hc;simp [ih h]
 have hR : RelR ⟨w, fun _ => False, hid, fun _ => undef, []⟩ fn.ntmps ρ (mk (Cd 0 args) []) { tmps := (⟨vs⟩ : Array Value) ++ Array.replicate (fn.ntmps - (⟨vs⟩ : Array Value).size) undef, defers := [] } w := by
  have how : ∀ b, ¬ Bb ρ (mk (Cd 0 args) []).h b := fun b ⟨n, x, h, _⟩ => by simp [mk, lk] at h
  have hV : (Aj w hid).le (Aj w ((⟨w, fun _ => False, hid, fun _ => undef, []⟩ : Fr).out ρ (mk (Cd 0 args) []).h)) :=
   A8 fun b c ho hc => ⟨fun hb => hb.elim (how b) ho, hc⟩
  refine ⟨⟨rfl, rfl, rfl, Nat.le_refl _, fun _ _ _ => rfl, fun b hb => ⟨hhid b hb, id⟩, ⟨htw, fun _ _ => id⟩⟩, fun b hb => absurd hb (how b), fun n x hx => by simp [mk, lk] at hx, fun n m x y b hx => by simp [mk, lk] at hx, fun n => ?_, by simp; omega, rfl⟩;have := (Ed 0 n hc).mono hV;simp only [Nat.zero_le, if_true, Nat.sub_zero] at this;simp only [mk];have he : ((⟨vs⟩ : Array Value) ++ Array.replicate (fn.ntmps - (⟨vs⟩ : Array Value).size) undef).getD n undef = (vs[n]?).getD undef := by
   rw [Array.getD_eq_getD_getElem?];by_cases hn : n < vs.length
   · rw [Array.getElem?_append_left (by simpa using hn)]; simp
   · rw [Array.getElem?_append_right (by simpa using hn)];rw [List.getElem?_eq_none (by omega)];simp only [Array.getElem?_replicate, Option.getD_none];split <;> rfl
  unfold Fr.val;by_cases hb : n < D4
  · rw [if_pos hb, he]; exact this
  · rw [if_neg hb];rw [List.getElem?_eq_none (by omega)] at this; exact this
 exact I2 hm hf rfl (by exact ⟨rfl, rfl, rfl, Nat.le_refl _, fun _ _ _ => rfl, fun b hb => ⟨hhid b hb, id⟩, ⟨htw, fun _ _ => id⟩⟩) (fun b (h : False) => h.elim) hR hQ hrun
end Go.Proofs.YthleeikkpjiicaaDoor.Fw
namespace Go.Proofs.YthleeikkpjiicaaDoor.Fw
open Go.RowKit
variable {P : Program} {F : Fr} {N : Nat} {ρ ρ' : Nat → Value} {s : FS} {a : Act} {w w' : World} {V V' : View}
mutual
def SV.closed : SV → Bool
 | .pv _ => true
 | .vec _ _ => true
 | .agg l => SV.closedL l
 | .tup l => SV.closedL l
 | .pi _ _ _ _ => true
 | .fn _ l => SV.closedL l
 | .dead => true
 | _ => false
def SV.closedL : List SV → Bool
 | [] => true
 | x :: l => x.closed && SV.closedL l
end
mutual
theorem Be (hV : V.le V') : ∀ {x : SV} {v : Value}, x.closed = true → Conc V ρ x v → Conc V' ρ' x v
 | .pv x, v, _, h => by simp only [Conc] at *; exact h.mono hV
 | .vec n cs, v, _, h => by simp only [Conc] at *; obtain ⟨vs, a, b, c⟩ := h; exact ⟨vs, a, b, c.mono hV⟩
 | .agg l, v, hc, h => by simp only [Conc, SV.closed] at *; obtain ⟨vs, a, b⟩ := h; exact ⟨vs, a, J7 hV hc b⟩
 | .tup l, v, hc, h => by simp only [Conc, SV.closed] at *; obtain ⟨vs, a, b⟩ := h; exact ⟨vs, a, Eb hV hc b⟩
 | .pi sz es i off, v, _, h => by
   have := Conc.mono (ρ := ρ) hV h;simp only [Conc] at *; exact this
 | .fn f l, v, hc, h => by simp only [Conc, SV.closed] at *; obtain ⟨vs, a, b⟩ := h; exact ⟨vs, a, Eb hV hc b⟩
 | .dead, v, _, h => by simp only [Conc]
 | .p _ _, v, hc, h => by simp [SV.closed] at hc
 | .ps _ _, v, hc, h => by simp [SV.closed] at hc
 | .pr _ _ _ _, v, hc, h => by simp [SV.closed] at hc
 | .os _, v, hc, h => by simp [SV.closed] at hc
 | .ov _ _ _ _, v, hc, h => by simp [SV.closed] at hc
theorem Eb (hV : V.le V') : ∀ {l : List SV} {vs : List Value}, SV.closedL l = true → ConcL V ρ l vs → ConcL V' ρ' l vs
 | [], vs, _, h => by simp only [ConcL] at *; exact h
 | x :: l, vs, hc, h => by
   simp only [ConcL, SV.closedL, Bool.and_eq_true] at *;obtain ⟨u, us, a, b, c⟩ := h;exact ⟨u, us, a, Be hV hc.1 b, Eb hV hc.2 c⟩
theorem J7 (hV : V.le V') : ∀ {l : List SV} {vs : List Value}, SV.closedL l = true → Cells V ρ l vs → Cells V' ρ' l vs
 | [], vs, _, h => by simp only [Cells] at *; exact h
 | x :: l, vs, hc, h => by
   simp only [Cells, SV.closedL, Bool.and_eq_true] at *;obtain ⟨u, us, a, b, c, d, e⟩ := h;exact ⟨u, us, a, Be hV hc.1 b, c, d, J7 hV hc.2 e⟩
end
def PV.flat : PV → Bool
 | .sl _ _ es => es.isEmpty
 | _ => true
mutual
def SV.scalar : SV → Bool
 | .pv x => x.flat
 | .vec _ cs => cs.all PV.flat
 | .agg l => SV.scalarL l
 | .tup l => SV.scalarL l
 | _ => false
def SV.scalarL : List SV → Bool
 | [] => true
 | x :: l => x.scalar && SV.scalarL l
end
theorem Px {x : PV} {v : Value} (hf : x.flat = true) (h : PConc V x v) : PConc V' x v := by
 cases h with
 | i k n => exact .i k n
 | b x => exact .b x
 | s l => exact .s l
 | v _ h => exact .v _ h
 | sl full sz es a cap cs bl off arr hcap hfull hsz ha hcs hel =>
   have he : es = [] := by cases es <;> simp_all [PV.flat]
   subst he;exact .sl full sz [] a cap cs bl off arr hcap hfull hsz (fun h => absurd rfl h) hcs (fun i j c x h => by simp at h)
theorem Iu {cs : List PV} {vs : List Value} (hf : cs.all PV.flat = true) (h : PCells V cs vs) : PCells V' cs vs :=
 ⟨h.1, fun j x hx => by
  obtain ⟨v, h1, h2⟩ := h.2 j x hx;exact ⟨v, h1, Px (List.all_eq_true.1 hf x (List.mem_of_getElem? hx)) h2⟩⟩
mutual
theorem G5 : ∀ {x : SV} {v : Value}, x.scalar = true → Conc V ρ x v → Conc V' ρ' x v
 | .pv x, v, hc, h => by
   simp only [Conc, SV.scalar] at hc h ⊢;exact Px hc h
 | .vec n cs, v, hc, h => by
   simp only [Conc, SV.scalar] at hc h ⊢;obtain ⟨vs, a, b, c⟩ := h;exact ⟨vs, a, b, Iu hc c⟩
 | .agg l, v, hc, h => by simp only [Conc, SV.scalar] at *; obtain ⟨vs, a, b⟩ := h; exact ⟨vs, a, Je hc b⟩
 | .tup l, v, hc, h => by simp only [Conc, SV.scalar] at *; obtain ⟨vs, a, b⟩ := h; exact ⟨vs, a, Jd hc b⟩
 | .pi _ _ _ _, v, hc, h => by simp [SV.scalar] at hc
 | .fn _ _, v, hc, h => by simp [SV.scalar] at hc
 | .dead, v, hc, h => by simp [SV.scalar] at hc
 | .p _ _, v, hc, h => by simp [SV.scalar] at hc
 | .ps _ _, v, hc, h => by simp [SV.scalar] at hc
 | .pr _ _ _ _, v, hc, h => by simp [SV.scalar] at hc
 | .os _, v, hc, h => by simp [SV.scalar] at hc
 | .ov _ _ _ _, v, hc, h => by simp [SV.scalar] at hc
theorem Jd : ∀ {l : List SV} {vs : List Value}, SV.scalarL l = true → ConcL V ρ l vs → ConcL V' ρ' l vs
 | [], vs, _, h => by simp only [ConcL] at *; exact h
 | x :: l, vs, hc, h => by
   simp only [ConcL, SV.scalarL, Bool.and_eq_true] at *;obtain ⟨u, us, a, b, c⟩ := h;exact ⟨u, us, a, G5 hc.1 b, Jd hc.2 c⟩
theorem Je : ∀ {l : List SV} {vs : List Value}, SV.scalarL l = true → Cells V ρ l vs → Cells V' ρ' l vs
 | [], vs, _, h => by simp only [Cells] at *; exact h
 | x :: l, vs, hc, h => by
   simp only [Cells, SV.scalarL, Bool.and_eq_true] at *;obtain ⟨u, us, a, b, c, d, e⟩ := h;exact ⟨u, us, a, G5 hc.1 b, c, d, Je hc.2 e⟩
end
def Abr (x : SV) (off : Nat) : Option (List PV) → SV
 | some cs => .pi x.width [cs] 0 off
 | none => .dead
mutual
def Gh (h : Nat → Option Blk) : SV → SV
 | .os n => match h n with
   | some (.row sz es) => .pv (.sl false sz es)
   | _ => .dead
 | .p n off => match h n with
   | some (.var x) => Abr x off x.cells?
   | _ => .dead
 | .fn f l => .fn f (Bk h l)
 | x => x
def Bk (h : Nat → Option Blk) : List SV → List SV
 | [] => []
 | x :: l => Gh h x :: Bk h l
end
mutual
def Gx : SV → Bool
 | .os _ => true
 | .p _ _ => true
 | .fn _ l => Az l
 | x => x.closed
def Az : List SV → Bool
 | [] => true
 | x :: l => Gx x && Az l
end
mutual
def Jp : SV → List Nat
 | .os n => [n]
 | .p n _ => [n]
 | .fn _ l => Bg l
 | _ => []
def Bg : List SV → List Nat
 | [] => []
 | x :: l => Jp x ++ Bg l
end
def Aw (s : FS) (ns : List Nat) : FS := ⟨s.t, fun n => if n ∈ ns then none else s.h n⟩
theorem Po (h : Nat → Option Blk) : ∀ l : List SV, (Bk h l).length = l.length
 | [] => by simp only [Bk]
 | x :: l => by simp only [Bk, List.length_cons, Po h l]
theorem Qd (s : FS) (ns : List Nat) : Weak s (Aw s ns) := ⟨fun n => .refl _, fun n b' hb => by
 simp only [Aw] at hb;split at hb
 · cases hb
 · rw [hb]; simp only [Yg];cases b' with
   | var x => exact ⟨.refl _, rfl⟩
   | row sz es => exact ⟨rfl, rfl⟩
   | rowc sz es c => exact ⟨rfl, rfl, rfl⟩
   | it l p => exact ⟨rfl, rfl⟩⟩
theorem Cx (F : Fr) (w : World) (ρ : Nat → Value) (s : FS) (ns : List Nat) : (vw F w ρ s).le (vw F w ρ (Aw s ns)) := A8 fun b c ho hc => ⟨fun hb => ho (hb.imp_left fun ⟨n, x, h1, h2⟩ => by
 simp only [Aw] at h1;split at h1
 · cases h1
 · exact ⟨n, x, h1, h2⟩), hc⟩
mutual
theorem X2 (hR : RelR F N ρ s a w) {h : Nat → Option Blk} {ns : List Nat} : ∀ {x : SV} {v : Value}, Gx x = true → (∀ n ∈ tn x, s.h n = h n) → (∀ n ∈ Jp x, n ∈ ns) →
 Conc (vw F w ρ s) ρ x v → Conc (vw F w ρ (Aw s ns)) ρ (Gh h x) v
 | .os n, v, hl, hh, hn, h1 => by
   simp only [Gh];have hhn := hh n (by simp [tn]);have hns := hn n (by simp [Jp]);split
   · rename_i sz es hrow;rw [← hhn] at hrow;simp only [Conc] at h1 ⊢;rw [h1.1];have := Ni hR hrow;refine this.mono (A8 fun b c ho hc => ⟨fun hb => ho (hb.imp_left fun ⟨m, x, g1, g2⟩ => ?_), hc⟩);simp only [Aw] at g1;split at g1
     · cases g1
     · rename_i hm;refine ⟨m, x, ?_, g2⟩;simp only [FS.seth];rw [if_neg fun e => hm (by rw [e]; exact hns)];exact g1
   · simp only [Conc]
 | .p n off, v, hl, hh, hn, h1 => by
   simp only [Gh];have hhn := hh n (by simp [tn]);have hns := hn n (by simp [Jp]);split
   · rename_i x hvar;rw [← hhn] at hvar;cases hcs : x.cells? with
     | none => simp only [Abr, Conc]
     | some cs =>
       simp only [Conc] at h1;obtain ⟨b, hb, rfl⟩ := h1;obtain ⟨b', vs, ty, fr, u, k1, k2, k3, k4, k5, k6, k7⟩ := hR.own n _ hvar;rw [k1] at hb;simp only [Value.pointer.injEq, Option.some.injEq, Addr.mk.injEq, and_true] at hb;subst hb;have hp := Conc.cells k4 hcs;simp only [Abr, Conc];refine ⟨b', 0, ⟨vs⟩, by simp, ?_, fun c hc => ?_⟩
       · unfold vw Aj;rw [if_neg]
         · unfold Bn; rw [k2]
         · rintro (⟨m, y, g1, g2⟩ | g)
           · simp only [Aw] at g1;split at g1
             · cases g1
             · rename_i hm;exact hm ((hR.inj m n y _ b' g1 hvar g2 (by rw [k1]; rfl)) ▸ hns)
           · exact hR.shown ⟨n, _, hvar, by rw [k1]; rfl⟩ g
       · simp only [List.getElem?_cons_zero, Option.some.injEq] at hc;subst hc;have hl : cs.length = x.width := by rw [hp.1, ← k5]; exact k6
         refine ⟨hl, ?_⟩;have e : (vs.drop (0 + 0 * x.width)).take x.width = vs := by simp [k6 ▸ List.take_length]
         rw [e, k5];exact hp.mono (Cx F w ρ s ns)
   · simp only [Conc]
 | .fn f l, v, hl, hh, hn, h1 => by
   simp only [Gh, Conc] at *;obtain ⟨vs, rfl, h2⟩ := h1;exact ⟨vs, rfl, It hR (by simpa [Gx] using hl) (fun n hm => hh n (by simp only [tn]; exact hm)) (fun n hm => hn n (by simpa [Jp] using hm)) h2⟩
 | .pv x, v, hl, _, _, h1 => Be (Cx F w ρ s ns) rfl h1
 | .vec n cs, v, hl, _, _, h1 => Be (Cx F w ρ s ns) rfl h1
 | .agg l, v, hl, _, _, h1 => by
   have e : Gh h (.agg l) = .agg l := by simp only [Gh]
   rw [e];exact Be (Cx F w ρ s ns) (by simpa only [Gx] using hl) h1
 | .tup l, v, hl, _, _, h1 => by
   have e : Gh h (.tup l) = .tup l := by simp only [Gh]
   rw [e];exact Be (Cx F w ρ s ns) (by simpa only [Gx] using hl) h1
 | .pi _ _ _ _, v, hl, _, _, h1 => Be (Cx F w ρ s ns) rfl h1
 | .dead, v, hl, _, _, h1 => Be (Cx F w ρ s ns) rfl h1
 | .ps _ _, v, hl, _, _, h1 => by simp [Gx, SV.closed] at hl
 | .pr _ _ _ _, v, hl, _, _, h1 => by simp [Gx, SV.closed] at hl
 | .ov _ _ _ _, v, hl, _, _, h1 => by simp [Gx, SV.closed] at hl
theorem It (hR : RelR F N ρ s a w) {h : Nat → Option Blk} {ns : List Nat} : ∀ {args : List SV} {vs : List Value}, Az args = true → (∀ n ∈ Ay args, s.h n = h n) → (∀ n ∈ Bg args, n ∈ ns) →
 ConcL (vw F w ρ s) ρ args vs → ConcL (vw F w ρ (Aw s ns)) ρ (Bk h args) vs
 | [], vs, _, _, _, hc => by simp only [ConcL, Bk] at *; exact hc
 | x :: l, vs, hl, hh, hn, hc => by
   simp only [ConcL, Bk, Az, Bool.and_eq_true, Bg, List.mem_append] at *;obtain ⟨u, us, rfl, h1, h2⟩ := hc;exact ⟨u, us, rfl, X2 hR hl.1 (fun n hm => hh n (by simp only [Ay, List.mem_append]; exact .inl hm)) (fun n hm => hn n (.inl hm)) h1, It hR hl.2 (fun n hm => hh n (by simp only [Ay, List.mem_append]; exact .inr hm)) (fun n hm => hn n (.inr hm)) h2⟩
end
structure After (F : Fr) (N : Nat) (ρ : Nat → Value) (s : FS) (ns : List Nat) (a : Act) (w : World) (R : SV → FS → Prop) (v : Value) (w' : World) : Prop where
 grew : Grew w w'
 out : ∃ (N' : Nat) (ρ' : Nat → Value) (s' : FS) (a' : Act) (y : SV), RelR ⟨w, fun _ => False, F.out ρ (Aw s ns).h, fun _ => undef, []⟩ N' ρ' s' a' w' ∧ Conc (vw ⟨w, fun _ => False, F.out ρ (Aw s ns).h, fun _ => undef, []⟩ w' ρ' s') ρ' y v ∧ R y s'
theorem El (hm : P.follows .mixedOrders = true) {f N' : Nat} {rs : List Rv} {c : C} (hf : Bc P f = some (N', rs, c)) {args : List SV} {h : Nat → Option Blk} (hlen : args.length ≤ N') (hl : Az args = true)
 {R : SV → FS → Prop} {Q : Bd} (hQ : ∀ e s, Q e s → (e = .normal ∨ e = .ret) ∧ Nk rs R s) (hrun : ∀ F, sx (Zp P F N') c Q (mk (Cd 0 (Bk h args)) []))
 (hR : RelR F N ρ s a w) (hh : ∀ n ∈ Ay args, s.h n = h n) {vs : List Value} (hc : ConcL (vw F w ρ s) ρ args vs) :
 Calls P f ⟨vs⟩ w fun e w' => ∃ v, e = .returned v ∧ After F N ρ s (Bg args) a w R v w' := by
 have hRb := hR.weak (Qd s (Bg args));have hcb := It hR (ns := Bg args) hl hh (fun _ h => h) hc;refine Calls.mono (Y5 hm hf (hid := F.out ρ (Aw s (Bg args)).h) (fun b hb => ?_) hR.tabW (by rw [Po]; exact hlen) hcb hQ (hrun _)) fun e w' he => ?_
 · rcases hb with hb | hb
   · exact hRb.lt hb
   · exact Nat.lt_of_lt_of_le (hR.fr.hid b hb).1 hR.fr.size
 · obtain ⟨v, ρ', s', a', y, rfl, h1, h2, h3⟩ := he;exact ⟨v, rfl, ⟨h1.fr.os, h1.fr.tape, h1.fr.output, h1.fr.size, fun b hb => h1.fr.block b hb id⟩, N', ρ', s', a', y, h1, h2, h3⟩
theorem Oz {N' : Nat} {ρ' : Nat → Value} {s' : FS} {a' : Act} (hR' : RelR ⟨w, fun _ => False, F.out ρ s.h, fun _ => undef, []⟩ N' ρ' s' a' w') : (vw ⟨w, fun _ => False, F.out ρ s.h, fun _ => undef, []⟩ w' ρ' s').le (vw F w' ρ s) :=
 A8 fun b c ho hc => ⟨fun hb => ho (.inr hb), hc⟩
mutual
theorem X3 : ∀ {x : SV}, x.closed = true → Jp x = [] ∧ Gx x = true ∧ ∀ h, Gh h x = x
 | .fn f l, hc => by
   simp only [SV.closed] at hc;obtain ⟨h1, h2, h3⟩ := Cc hc;exact ⟨by simp only [Jp]; exact h1, by simp only [Gx]; exact h2, fun h => by simp only [Gh, h3 h]⟩
 | .pv _, hc => ⟨rfl, rfl, fun h => by simp only [Gh]⟩
 | .vec _ _, hc => ⟨rfl, rfl, fun h => by simp only [Gh]⟩
 | .agg _, hc => ⟨rfl, by simp only [Gx]; exact hc, fun h => by simp only [Gh]⟩
 | .tup _, hc => ⟨rfl, by simp only [Gx]; exact hc, fun h => by simp only [Gh]⟩
 | .pi _ _ _ _, hc => ⟨rfl, rfl, fun h => by simp only [Gh]⟩
 | .dead, hc => ⟨rfl, rfl, fun h => by simp only [Gh]⟩
 | .p _ _, hc => by simp [SV.closed] at hc
 | .ps _ _, hc => by simp [SV.closed] at hc
 | .pr _ _ _ _, hc => by simp [SV.closed] at hc
 | .os _, hc => by simp [SV.closed] at hc
 | .ov _ _ _ _, hc => by simp [SV.closed] at hc
theorem Cc : ∀ {args : List SV}, SV.closedL args = true → Bg args = [] ∧ Az args = true ∧ ∀ h, Bk h args = args
 | [], _ => ⟨by simp only [Bg], by simp only [Az], fun _ => by simp only [Bk]⟩
 | x :: l, hc => by
   simp only [SV.closedL, Bool.and_eq_true] at hc;obtain ⟨g1, g2, g3⟩ := X3 hc.1;obtain ⟨h1, h2, h3⟩ := Cc hc.2;exact ⟨by simp only [Bg, g1, h1]; rfl, by simp only [Az, g2, h2]; rfl, fun h => by simp only [Bk, g3 h, h3 h]⟩
end
theorem Ep (s : FS) : Aw s [] = s := by simp [Aw]
theorem Bv {f : Nat} {rs : List Rv} {c : C} (hf : Bc P f = some (N, rs, c)) : Kc P f := by
 obtain ⟨fn, code, h1, h2, h3, _⟩ := Mq hf;exact ⟨fn, h1, h2, by rw [h3]; rfl⟩
theorem A6 (hm : P.follows .mixedOrders = true) {f N' : Nat} {rs : List Rv} {c : C} (hf : Bc P f = some (N', rs, c)) {args : List SV} {h : Nat → Option Blk} {d : Nat} {x : SV} (hlen : args.length ≤ N')
 (hargs : SV.closedL args = true) (hx : x.closed = true) (hrun : ∀ F, sx (Zp P F N') c (Tr rs fun y _ => y = x) (mk (Cd 0 args) [])) : FunOk P f args h d x [] := by
 obtain ⟨h1, h2, h3⟩ := Cc hargs;refine ⟨Bv hf, fun F N ρ s a w hR hh vs hc => ?_⟩;refine Calls.mono (El hm hf (h := h) hlen h2 Nl (by rw [h3]; exact hrun) hR hh hc) fun e w' he => ?_;obtain ⟨v, rfl, hg, N'', ρ', s', a', y, hR', hy, rfl⟩ := he;rw [h1, Ep] at hR' hy;exact ⟨v, ρ, rfl, hR.grew hg, Be (Oz hR') hx hy⟩
theorem Yp (hm : P.follows .mixedOrders = true) {f N' : Nat} {rs : List Rv} {c : C} (hf : Bc P f = some (N', rs, c)) {args : List SV} {h : Nat → Option Blk} {d : Nat} {x : SV} (hlen : args.length ≤ N')
 (hargs : SV.closedL args = true) (hx : x.closed = true) (hrun : ∀ F, sx (Zp P F N') c (Ael rs fun y _ => y = x) (mk (Cd 0 args) [])) : FunOk P f args h d x [] := by
 obtain ⟨h1, h2, h3⟩ := Cc hargs;refine ⟨Bv hf, fun F N ρ s a w hR hh vs hc => ?_⟩;refine Calls.mono (El hm hf (h := h) hlen h2 Aaq (by rw [h3]; exact hrun) hR hh hc) fun e w' he => ?_;obtain ⟨v, rfl, hg, N'', ρ', s', a', y, hR', hy, rfl⟩ := he;rw [h1, Ep] at hR' hy;exact ⟨v, ρ, rfl, hR.grew hg, Be (Oz hR') hx hy⟩
theorem Cm (hm : P.follows .mixedOrders = true) {f N' : Nat} {rs : List Rv} {c : C} (hf : Bc P f = some (N', rs, c)) {args : List SV} {h : Nat → Option Blk} {d : Nat} {x : SV} (hlen : args.length ≤ N')
 (hargs : Az args = true) (hx : x.scalar = true) (hrun : ∀ F, sx (Zp P F N') c (Tr rs fun y _ => y = x) (mk (Cd 0 (Bk h args)) [])) : FunOk P f args h d x [] := by
 refine ⟨Bv hf, fun F N ρ s a w hR hh vs hc => ?_⟩;refine Calls.mono (El hm hf (h := h) hlen hargs Nl hrun hR hh hc) fun e w' he => ?_;obtain ⟨v, rfl, hg, N'', ρ', s', a', y, hR', hy, rfl⟩ := he;exact ⟨v, ρ, rfl, hR.grew hg, G5 hx hy⟩
theorem Hx (hm : P.follows .mixedOrders = true) {f N' : Nat} {rs : List Rv} {c : C} (hf : Bc P f = some (N', rs, c)) {args : List SV} {h : Nat → Option Blk} {d : Nat} {sz : Nat} {es : List (List PV)} (hlen : args.length ≤ N')
 (hargs : Az args = true) (hx : SV.closedL args = true ∨ ∀ c ∈ es, c.all PV.flat = true) (hrun : ∀ F, sx (Zp P F N') c (Tr rs fun y g => ∃ n, y = .os n ∧ g n = some (.row sz es)) (mk (Cd 0 (Bk h args)) [])) :
 FunOk P f args h d (.os d) [.new d (.row sz es)] := by
 refine ⟨Bv hf, fun F N ρ s a w hR hh vs hc => ?_⟩;refine Calls.mono (El hm hf (h := h) hlen hargs Nl hrun hR hh hc) fun e w' he => ?_;obtain ⟨v, rfl, hg, N'', ρ', s', a', y, hR', hy, n, rfl, hn⟩ := he;simp only [Conc] at hy;obtain ⟨base, cap, g1, g2, g3, g4, g5⟩ := hR'.own n _ hn;have hown : ∀ b, Bj (ρ' n) = some b → w.heap.size ≤ b ∧ b < w'.heap.size := fun b hb => by
  have ho : Bb ρ' s'.h b := ⟨n, _, hn, hb⟩
  exact ⟨(hR'.may b ho).resolve_right id, hR'.lt ho⟩
 have hnew := hR.adopt hg d (.row sz es) (ρ' n) hown fun hV => by
  refine ⟨base, cap, by rw [An]; exact g1, g2, g3, g4, fun hcap => ?_⟩;obtain ⟨b, vs', ty, fr, k1, k2, k3, k4, k5, k6⟩ := g5 hcap;refine ⟨b, vs', ty, fr, k1, k2, k3, k4, k5, fun i c hi => ?_⟩;rcases hx with hx | hx
  · obtain ⟨e1, _, _⟩ := Cc hx;rw [e1, Ep] at hR' k6;refine (k6 i c hi).mono (A8 fun b' c' ho hc' => ⟨fun hb' => ?_, hc'⟩);rcases hb' with ⟨m, z, hm1, hm2⟩ | hb'
    · by_cases hmd : m = d
      · subst hmd;rw [An] at hm2;exact ho (.inl ⟨n, _, hn, hm2⟩)
      · rw [A3 hmd] at hm2;simp only [FS.seth, FS.kill, hmd, if_false] at hm1;obtain ⟨z', hz', _⟩ := Option.map_eq_some_iff.1 hm1;exact ho (.inr (.inl ⟨m, z', hz', hm2⟩))
    · exact ho (.inr (.inr hb'))
  · exact Iu (hx c (List.mem_of_getElem? hi)) (k6 i c hi)
 refine ⟨v, _, rfl, hnew.1, ?_⟩;simp only [Conc];exact ⟨by rw [An]; exact hy.1, hy.2⟩
end Go.Proofs.YthleeikkpjiicaaDoor.Fw
namespace Go.Proofs.YthleeikkpjiicaaDoor.Fw
open Go.RowKit
theorem Af9 {α : Type} (I : α → FS) (J : α → Prop) (m : α → Nat) (x : α) (Q : Bd) (s) : Wg I J m x Q .normal s = ∃ y, J y ∧ m y < m x ∧ Wk s (I y) := (rfl)
theorem Aga {α : Type} (I : α → FS) (J : α → Prop) (m : α → Nat) (x : α) (Q : Bd) (s i) : Wg I J m x Q (.exit i) s = Q (.exit i) s := (rfl)
theorem Af8 {α : Type} (I : α → FS) (J : α → Prop) (m : α → Nat) (x : α) (Q : Bd) (s) : Wg I J m x Q .ret s = Q .ret s := (rfl)
theorem Aj0 (rs R s) : Tr rs R .normal s = Fk s rs fun l => R (one l) s.h := (rfl)
theorem Ajz (rs R s) : Tr rs R .ret s = Fk s rs fun l => R (one l) s.h := (rfl)
theorem Aar (s K) : Fk s [] K = K [] := (rfl)
theorem Aj1 (s n rs K) : Fk s (.t n :: rs) K = Fk s rs fun l => K (s.t n :: l) := (rfl)
def V5 (s : FS) (rs : List Rv) (K : List SV → Prop) : KK := fun x u => u = [] ∧ Fk s rs fun l => K (x :: l)
theorem Aj2 (s a size ag rs K) : Fk s (.c a size ag :: rs) K = D5 s.h size ag (s.t a) (V5 s rs K) := (rfl)
theorem Ua (s rs K x u) : V5 s rs K x u = (u = [] ∧ Fk s rs fun l => K (x :: l)) := (rfl)
theorem Anw (x) : one [x] = x := (rfl)
theorem Anv (x y l) : one (x :: y :: l) = .tup (x :: y :: l) := (rfl)
theorem Adx (k) : Cd k [] = [] := (rfl)
theorem Za (k x l) : Cd k (x :: l) = (k, x) :: Cd (k + 1) l := (rfl)
theorem Mk (h : Nat → Option Blk) (n sz es) (hn : h n = some (.row sz es)) : Gh h (.os n) = .pv (.sl false sz es) := by simp only [Gh, hn]
theorem Ab6 (s) : Sw s [] = True := (rfl)
theorem Yd (s n x l) : Sw s ((n, x) :: l) = (Imp (s.t n) x ∧ Sw s l) := (rfl)
theorem Ab7 (s) : O6 s [] = True := (rfl)
theorem Ye (s n b l) : O6 s ((n, some b) :: l) = (Yg (s.h n) b ∧ O6 s l) := (rfl)
theorem Yf (x y) : Yg (some x) y = Aem x y := (rfl)
theorem Ab9 (a b c d) : Aem (.row a b) (.row c d) = (a = c ∧ b = d) := (rfl)
theorem Ab8 (x y) : Aem (.var x) (.var y) = (Imp x y ∧ x.width = y.width) := (rfl)
theorem Ab5 (x) : Imp x x = True := eq_true (Imp.refl x)
theorem Af7 (n m : Nat) (l : List Nat) : (n ∈ m :: l) = (n = m ∨ n ∈ l) := propext List.mem_cons
theorem Mx {n : Int} (h : 0 ≤ n ∧ n < 18446744073709551616) : IntKind.u64.wrap n = n := by
 simp [IntKind.wrap, IntKind.signed, IntKind.bits]; omega
theorem Rq {n : Int} (h : -9223372036854775808 ≤ n ∧ n < 9223372036854775808) : IntKind.i64.wrap n = n := by
 simp [IntKind.wrap, IntKind.signed, IntKind.bits]; omega
mutual
theorem Tc (n : Nat) : ∀ {x : SV}, x.closed = true → x.kill n = x
 | .pv _, _ => by simp only [SV.kill]
 | .vec _ _, _ => by simp only [SV.kill]
 | .agg l, h => by simp only [SV.closed] at h; simp only [SV.kill, Da n h]
 | .tup l, h => by simp only [SV.closed] at h; simp only [SV.kill, Da n h]
 | .pi _ _ _ _, _ => by simp only [SV.kill]
 | .fn f l, h => by simp only [SV.closed] at h; simp only [SV.kill, Da n h]
 | .dead, _ => by simp only [SV.kill]
 | .p _ _, h => by simp [SV.closed] at h
 | .ps _ _, h => by simp [SV.closed] at h
 | .pr _ _ _ _, h => by simp [SV.closed] at h
 | .os _, h => by simp [SV.closed] at h
 | .ov _ _ _ _, h => by simp [SV.closed] at h
theorem Da (n : Nat) : ∀ {l : List SV}, SV.closedL l = true → SV.killL n l = l
 | [], _ => by simp only [SV.killL]
 | x :: l, h => by
   simp only [SV.closedL, Bool.and_eq_true] at h;simp only [SV.killL, Tc n h.1, Da n h.2]
end
theorem Ab {P : Program} {E : Env} {f : Nat} {args : List SV} {h : Nat → Option Blk} {d : Nat} {x : SV} {u : List HU} {K : KK} (hf : FunOk P f args h d x u) (hk : K x u) (hE : E.call = Vp P := by rfl) : J9 E f args h d K := ⟨x, u, .inl (hE ▸ .inl hf), hk⟩
theorem Adj {P : Program} {E : Env} {f : Nat} {args : List SV} {h : Nat → Option Blk} {d : Nat} {x : SV} {K : KK} (hf : Aen P f args h x) (hk : K x []) (hE : E.call = Vp P := by rfl) : J9 E f args h d K := ⟨x, [], .inl (hE ▸ .inr ⟨rfl, hf⟩), hk⟩
theorem Afq (w : World) (ht : Vo w) : RelR ⟨w, fun _ => False, fun _ => False, fun _ => undef, []⟩ 0 (fun _ => undef) ⟨fun _ => .dead, fun _ => none⟩ ⟨#[], []⟩ w :=
 ⟨⟨rfl, rfl, rfl, Nat.le_refl _, fun _ _ _ => rfl, fun _ h => h.elim, ⟨ht, fun _ _ => id⟩⟩, fun b ⟨n, x, h, _⟩ => by simp at h, fun n x h => by simp at h, fun n m x y b h => by simp at h, fun n => by simp only [Conc], rfl, rfl⟩
theorem FunOk.law {P : Program} {f : Nat} {args : List SV} {h d} (hf : FunOk P f args h d (.pv (.b true)) []) (hc : SV.closedL args = true) {w : World} {vs : List Value} {ρ : Nat → Value} (hv : ConcL (Aj w fun _ => False) ρ args vs) (htw : Vo w) :
 Calls P f ⟨vs⟩ w fun e w' => e = .returned (.bool true) ∧ Below w.heap.size w w' := by
 have ht : Ay args = [] := by
  cases hx : Ay args with
  | nil => rfl
  | cons n l =>
    have : SV.killL n args = args := by
     have key : ∀ (l : List SV), SV.closedL l = true → ∀ n, SV.killL n l = l := fun l hl n => Da n hl;exact key args hc n
    exact absurd (by rw [hx]; simp) (Ff this)
 have hV : (Aj w fun _ => False).le (vw ⟨w, fun _ => False, fun _ => False, fun _ => undef, []⟩ w (fun _ => undef) ⟨fun _ => .dead, fun _ => none⟩) :=
  A8 fun b c _ hb => ⟨fun hh => hh.elim (fun ⟨n, x, h, _⟩ => by simp at h) id, hb⟩
 refine Calls.mono (hf.2 _ 0 _ _ _ w (Afq w htw) (by rw [ht]; simp) vs (Eb hV hc hv)) fun e w' he => ?_;obtain ⟨v, ρ', rfl, hR, hy⟩ := he;exact ⟨by rw [Js hy], hR.fr.os, hR.fr.tape, hR.fr.output, hR.fr.size, fun b hb => hR.fr.block b hb id⟩
end Go.Proofs.YthleeikkpjiicaaDoor.Fw
namespace Go.Proofs.YthleeikkpjiicaaDoor.Fw
open Go.RowKit
variable (E : Env)
def brK (a : C) (Q : Bd) (s : FS) : Prop := sx E a Q s
def gdK (k : Kd) (x : List Opd) (d : Nat) (l : List I) (Q : Bd) (s : FS) : Prop := body E k x d s (Lw E (some d) l Q s)
def skK (d : Option Nat) (l : List I) (Q : Bd) (s : FS) : Prop := Rw E l Q (s.apply d (.tup []) [])
def gdA (D : List Nat) (c : Nat) (k : Kd) (x : List Opd) (d : Nat) (l : List (I × Nat × List Nat)) (Q : Bd) (s : FS) : Prop := body E k x d s (F4 E D c (some d) l Q s)
def skA (D : List Nat) (c : Nat) (d : Option Nat) (l : List (I × Nat × List Nat)) (Q : Bd) (s : FS) : Prop := F4 E D c d l Q s (.tup []) []
def pkK (K : KK) (x : SV) : Prop := K x []
theorem Km (a Q s) : brK E a Q s = sx E a Q s := (rfl)
theorem Kl (k x d l Q s) : gdK E k x d l Q s = body E k x d s (Lw E (some d) l Q s) := (rfl)
theorem Kk (d l Q s) : skK E d l Q s = Rw E l Q (s.apply d (.tup []) []) := (rfl)
theorem Kj (D c k x d l Q s) : gdA E D c k x d l Q s = body E k x d s (F4 E D c (some d) l Q s) := (rfl)
theorem Ki (D c d l Q s) : skA E D c d l Q s = F4 E D c d l Q s (.tup []) [] := (rfl)
theorem Kf (K x) : pkK K x = K x [] := (rfl)
theorem Ak9 (p : Prop) [Decidable p] (a b Q s) : X7 E (.pv (.b (decide p))) a b Q s = ((p → brK E a Q s) ∧ (¬ p → brK E b Q s)) := by
 by_cases h : p <;> simp [X7, brK, h]
attribute [go_sem] Ace Ade Ae9 Z1 W9 W8 Yh Yi Yj Yk Ae0 Ae1 Aez Agp Ago Agq Ai6 Ae7 X6 Ui Adf Afa Z2 Xb Xa Yl Ym Yn Yo Aoa An9 An8 Af3 Abd Abi Xy Ub Uc Abf Abg Abe Abh Ai1 Ai4 Zy Ae5 Ai3 Ae3 Ae4 Ai5 Ak8 Ala Ahv Ahw Agv Agw Agt Agx Acm Acn Yq Aco Yr Ar4 Apw Ar6 f_p Ar5 Ar7 Apx Ar8 Alq Ahb Alm Aln Aaj V3 Wm Ap1 Arc Ap2 Apl Akx Agd X4 Uf X5 Uh Ug Art Apb Arv k_p Aru Arx Apd Apc Ary Ak5 Agk Ak3 Ak4 Ahd Acs Y7 U3 Y3 Asf Amm Aqj Aqw Aqx Amo Aqv Ash Aqe Aqy Aqq Ase Aqs Amn Aqi Aqh Asi Aqm Aqo Aqn Aqp Aql Aq0 Asg Aqk Arl Akp Akc Akd Aog Aor Aos Akr Aoq Y8 Adk Arn Aob Aot Aom Acu Abv Ark Aiy Aon Aof Aoe Aro Aoj Ar3 Aps Apu Aoi Ald Ale Aca Ao7 Ao8 Ao9 Ars Ao1 Ao2 Ao3 Agh Abn Abo Abp Xz Ahi Ada Ara Anp Arb Anc Ajs Ane Ajt Aiv Aet Afj Aah Asd Aqa Aqb Al1 Ahk Akf Ann Z6 Ano Ard Anl Afc Acf Ahg Adz Ar0 Apm Ali Agz Asa Asb Aov Amu Aok Apk Aol Aa8 Aa9 Akq Arm Arr Aoh Aqd Aqc Aml Amb Amf Amd Amc Amk Ame Amg Amh Ami Amj Al7 Al6 Al3 Al4 Al5 Apq All Apr Aiu Aes Amq Aht Aq8 Aq9 Afn Als Abc Alc Alo Ag9 Acp Ajp Ajo Ajn Ajm Afh Aow Ajk Ajj Apj Api if_true if_false Option.map_some Option.bind_some Nat.le_refl and_self List.append_nil List.nil_append List.cons_append true_and and_true true_or or_true Bool.false_and Bool.true_and Bool.false_or Bool.or_false Bool.and_false Bool.and_true Bool.not_true Bool.not_false Int.toNat_zero List.drop_zero Int.toNat_natCast Af7 Nat.zero_add Nat.add_zero decide_true decide_false Af9 Aga Af8 Aj0 Ajz Aar Aj1 Aj2 Ua Anw Anv Adx Za Ab6 Yd Ab7 Ye Yf Ab9 Ab8 Ab5 Option.getD_some Option.getD_none true_implies false_implies Ak9 Mx Rq not_true_eq_false not_false_eq_true
attribute [go_sem_proc] Nat.reduceEqDiff Nat.reduceSub Nat.reduceLeDiff Nat.reduceAdd Int.reduceEq Int.reduceLT Int.reduceLE
attribute [go_sem_proc ↓] reduceIte
end Go.Proofs.YthleeikkpjiicaaDoor.Fw
namespace Go.Proofs.YthleeikkpjiicaaDoor.Fw
open Go.RowKit
def I4 (n : Nat) (f : Nat → PV) : List PV := (List.range n).map f
theorem L0 (n f) : (I4 n f).length = n := by simp [I4]
theorem Oq {n k : Nat} (h : k < n) (f) : (I4 n f)[k]? = some (f k) := by simp [I4, h]
theorem Adw {n : Nat} {f g : Nat → PV} (h : ∀ i, i < n → f i = g i) : I4 n f = I4 n g := by
 unfold I4; exact List.map_congr_left fun i hi => h i (by simpa using hi)
theorem Adv {n : Nat} {f g : Nat → PV} : I4 n f = I4 n g ↔ ∀ i, i < n → f i = g i := by
 refine ⟨fun e i hi => ?_, Adw⟩;have := congrArg (·[i]?) e;simp only [Oq hi, Option.some.injEq] at this;exact this
abbrev Vc := Nat → Nat
def vE (a : Vc) : List PV := I4 8 fun i => .i .u32 (a i : Int)
def tE (t : Nat → Vc) : List PV := I4 64 fun i => .i .u32 (t (i / 8) (i % 8) : Int)
def wE (w : Nat → Bool) : List PV := I4 8 fun i => .b (w i)
def Rn (a b : Vc) : Prop := ∀ i, i < 8 → a i = b i
instance (a b : Vc) : Decidable (Rn a b) := inferInstanceAs (Decidable (∀ i, i < 8 → a i = b i))
theorem Aix {a b : Vc} : vE a = vE b ↔ Rn a b := by
 unfold vE Rn; rw [Adv];refine forall_congr' fun i => forall_congr' fun hi => ?_;simp only [PV.i.injEq, true_and]; omega
theorem Kq (a) : (vE a).length = 8 := L0 ..
theorem Ag8 (a) : Ce [.int .u32, .int .u32, .int .u32, .int .u32, .int .u32, .int .u32, .int .u32, .int .u32] (vE a) = True := eq_true rfl
theorem Ake (a b) : V8 (vE a) (vE b) = decide (Rn a b) := by unfold V8; exact decide_eq_decide.2 Aix
theorem Aeq : ([.i .u32 0, .i .u32 0, .i .u32 0, .i .u32 0, .i .u32 0, .i .u32 0, .i .u32 0, .i .u32 0] : List PV) = vE fun _ => 0 := rfl
theorem Aep : ([.b false, .b false, .b false, .b false, .b false, .b false, .b false, .b false] : List PV) = wE fun _ => false := rfl
theorem Aj4 : List.replicate 8 (PV.i .u32 0) = vE fun _ => 0 := rfl
theorem Aj3 : List.replicate 8 (PV.b false) = wE fun _ => false := rfl
theorem Aj5 : List.replicate 64 (PV.i .u32 0) = tE fun _ _ => 0 := rfl
def iE (f : Nat → Int) : List PV := I4 8 fun i => .i .i64 (f i)
theorem Aer : ([.i .i64 0, .i .i64 0, .i .i64 0, .i .i64 0, .i .i64 0, .i .i64 0, .i .i64 0, .i .i64 0] : List PV) = iE fun _ => 0 := rfl
theorem Aj6 : List.replicate 8 (PV.i .i64 0) = iE fun _ => 0 := rfl
theorem Agc (c cs K) : LoadK (some (c :: cs)) 0 1 false K = K (.pv c) [] := by
 simp [LoadK, Ml]
theorem Agb (c cs n m ag K) : LoadK (some (c :: cs)) (n + 1) m ag K = LoadK (some cs) n m ag K := by
 simp only [LoadK, List.length_cons];have e : Ml (c :: cs) (n + 1) m ag = Ml cs n m ag := by cases ag <;> simp [Ml]
 rw [e];congr 1;exact propext ⟨fun h => by omega, fun h => by omega⟩
theorem Adh (a b : Nat) : min (a : Int) (b : Int) = ((min a b : Nat) : Int) := by omega
theorem Ako {p q : Prop} (h : p) : (p ∧ q) = q := propext ⟨fun x => x.2, fun x => ⟨h, x⟩⟩
theorem Ap4 {a b : Int} (h : a < b) : decide (a < b) = true := decide_eq_true h
theorem Ap5 {a b : Int} (h : ¬ a < b) : decide (a < b) = false := decide_eq_false h
theorem Ap6 {a b : Int} (h : a ≤ b) : decide (a ≤ b) = true := decide_eq_true h
theorem Ap7 {a b : Int} (h : ¬ a ≤ b) : decide (a ≤ b) = false := decide_eq_false h
theorem Ap8 {a b : Int} (h : a = b) : decide (a = b) = true := decide_eq_true h
theorem Ap9 {a b : Int} (h : ¬ a = b) : decide (a = b) = false := decide_eq_false h
theorem Ags {k : IntKind} {a b : Int} (h : a = b) : Imp (.pv (.i k a)) (.pv (.i k b)) = True := eq_true (h ▸ Imp.refl _)
def Nm (n m : Nat) : List (Nat × SV) → List (Nat × SV)
 | [] => []
 | (j, x) :: l => (j, x.ren n m) :: Nm n m l
def H4 (n m : Nat) : List (Nat × Option Blk) → List (Nat × Option Blk)
 | [] => []
 | (j, some x) :: l => (if j = m then (j, none) else (j, some (x.ren n m))) :: H4 n m l
 | (j, none) :: l => (j, none) :: H4 n m l
theorem Wi (n m k) : ∀ t : List (Nat × SV), lk .dead k (Nm n m t) = (lk .dead k t).ren n m
 | [] => by simp [Nm, lk, SV.ren]
 | (j, x) :: l => by
   simp only [Nm, lk, Wi n m k l];split <;> rfl
theorem Mh (n m k) (hk : k ≠ m) : ∀ t : List (Nat × Option Blk), lk none k (H4 n m t) = (lk none k t).map (Blk.ren n m)
 | [] => by simp [H4, lk]
 | (j, some x) :: l => by
   by_cases hj : j = m
   · subst hj; simp [H4, lk, hk, Mh n j k hk l]
   · simp only [H4, hj, if_false, lk, Mh n m k hk l];split <;> rfl
 | (j, none) :: l => by
   simp only [H4, lk, Mh n m k hk l];split <;> simp
theorem Aj7 (t h n m) (hne : n ≠ m) : (mk t h).ren n m = mk (Nm n m t) ((n, none) :: (m, (lk none n h).map (Blk.ren n m)) :: H4 n m h) := by
 have e1 : (fun k => ((mk t h).t k).ren n m) = (mk (Nm n m t) ((n, none) :: (m, (lk none n h).map (Blk.ren n m)) :: H4 n m h)).t := by
  funext k; simp only [mk, Wi]
 have e2 : ((mk t h).ren n m).h = (mk (Nm n m t) ((n, none) :: (m, (lk none n h).map (Blk.ren n m)) :: H4 n m h)).h := by
  funext k;simp only [FS.ren, mk, lk];by_cases h1 : k = m
  · subst h1; rw [if_pos rfl, if_neg (Ne.symm hne), if_pos rfl]
  · rw [if_neg h1];by_cases h2 : k = n
    · subst h2; simp
    · rw [if_neg h2, if_neg h2, if_neg h1, Mh n m k h1]
 show FS.mk _ _ = FS.mk _ _;congr 1
theorem E6 {t : List (Nat × SV)} {h : List (Nat × Option Blk)} {s' : FS} (n m : Nat) (hne : n ≠ m) (hm : lk none m h = none) (hw : Wk (mk (Nm n m t) ((n, none) :: (m, (lk none n h).map (Blk.ren n m)) :: H4 n m h)) s') : Wk (mk t h) s' :=
 .ren n m hne hm (by rw [Aj7 _ _ _ _ hne]; exact hw)
theorem My {t : List (Nat × SV)} {h : List (Nat × Option Blk)} {s' : FS} (k n sz : Nat) {z : Nat} (ht : lk .dead k t = .pv (.sl true z [])) (hs : 0 < sz) (hw : Wk (mk ((k, .os n) :: Jq n t) ((n, some (.row sz [])) :: Fs n h)) s') : Wk (mk t h) s' :=
 .nil k n z sz ht hs (by rw [Wm, V3, Aaj]; exact hw)
theorem Al {α : Type} {I : α → FS} {J : α → Prop} {m : α → Nat} {x : α} {s : FS} (y : α) (T : List (Nat × SV)) (H : List (Nat × Option Blk)) (hI : I y = mk T H) (hJ : J y) (hm : m y < m x) (h1 : Sw s T) (h2 : O6 s H) : ∃ y, J y ∧ m y < m x ∧ Wk s (I y) :=
 ⟨y, hJ, hm, hI ▸ Ao h1 h2⟩
theorem Are (n m x) : SV.ren n m (.pv x) = .pv x := (rfl)
theorem Anq (n m k x) : SV.ren n m (.vec k x) = .vec k x := (rfl)
theorem Arg (n m a b c d) : SV.ren n m (.pi a b c d) = .pi a b c d := (rfl)
theorem r_p (n m k o) : SV.ren n m (.p k o) = if k = n then .p m o else if k = m then .dead else .p k o := (rfl)
theorem Arf (n m k s i o) : SV.ren n m (.pr k s i o) = if k = n then .pr m s i o else if k = m then .dead else .pr k s i o := (rfl)
theorem Arh (n m k) : SV.ren n m (.os k) = if k = n then .os m else if k = m then .dead else .os k := (rfl)
theorem Ans (n m l) : SV.ren n m (.agg l) = .agg (SV.renL n m l) := (rfl)
theorem Anr (n m l) : SV.ren n m (.tup l) = .tup (SV.renL n m l) := (rfl)
theorem Aka (n m) : SV.renL n m [] = [] := (rfl)
theorem Afs (n m x l) : SV.renL n m (x :: l) = SV.ren n m x :: SV.renL n m l := (rfl)
theorem Aj8 (n m x) : Blk.ren n m (.var x) = .var (x.ren n m) := (rfl)
theorem Aj9 (n m a b) : Blk.ren n m (.row a b) = .row a b := (rfl)
theorem Aas (n m) : Nm n m [] = [] := (rfl)
theorem Xm (n m j x l) : Nm n m ((j, x) :: l) = (j, x.ren n m) :: Nm n m l := (rfl)
theorem Aat (n m) : H4 n m [] = [] := (rfl)
theorem Xo (n m j x l) : H4 n m ((j, some x) :: l) = (if j = m then (j, none) else (j, some (x.ren n m))) :: H4 n m l := (rfl)
theorem Xn (n m j l) : H4 n m ((j, none) :: l) = (j, none) :: H4 n m l := (rfl)
theorem Alp (p : List PV → Prop) : (∀ c, c ∈ ([] : List (List PV)) → p c) = True := by simp
theorem Aha (x l) (p : List PV → Prop) : (∀ c, c ∈ x :: l → p c) = (p x ∧ ∀ c, c ∈ l → p c) := by simp
theorem Apy (d : Nat) (p : Nat → Prop) : (∃ n, SV.os d = SV.os n ∧ p n) = p d := propext ⟨fun ⟨n, e, h⟩ => by cases e; exact h, fun h => ⟨d, rfl, h⟩⟩
attribute [go_sem] List.take_length Alp Aha Apy List.length_cons List.length_nil Aer Aj6 Are Anq Arg r_p Arf Arh Ans Anr Aka Afs Aj8 Aj9 Aas Xm Aat Xo Xn Agc Agb Ags Int.natCast_zero Aeq Aep Aj4 Aj3 Aj5 Kq Ag8 Ake Adh Ako Ap4 Ap5 Ap6 Ap7 Ap8 Ap9 Nat.mul_one Bool.false_xor Bool.true_xor
section slices
variable (E : Env)
theorem Arw (n m z a b) : SV.kill n (.ov m z a b) = if n = m then .dead else .ov m z a b := (rfl)
theorem Agj (n a b c) : Blk.kill n (.rowc a b c) = .rowc a b c := (rfl)
theorem Aqr (n x d s K) : body E (.eqn n) x d s K = Ag d s.h (.eqn n) (A2 s x) K := (rfl)
theorem Aqu (x d s K) : body E .cap x d s K = Ag d s.h .cap (A2 s x) K := (rfl)
theorem Aqt (n x d s K) : body E (.cpy n) x d s K = Ag d s.h (.cpy n) (A2 s x) K := (rfl)
theorem Aqz (a b z x d s K) : body E (.apz a b z) x d s K = Ag d s.h (.apz a b z) (A2 s x) K := (rfl)
theorem Aqg (n a b x d s K) : body E (.slv n a b) x d s K = Ag d s.h (.slv n a b) (A2 s x) K := (rfl)
theorem Aqf (n x d s K) : body E (.slx n) x d s K = Ag d s.h (.slx n) (A2 s x) K := (rfl)
theorem Aba (d h n f z es K) : Ag d h (.eqn n) [.pv (.sl f z es)] K = Od n (some es) K := (rfl)
theorem Acx (n es K) : Od n (some es) K = ∀ b : Bool, (es ≠ [] → b = false) → K (.pv (.b (n ^^ b))) [] := (rfl)
theorem Aop (d h n K) : Ag d h .cap [.os n] K = Oi (h n) n K := (rfl)
theorem Adi (sz es n K) : Oi (some (.row sz es)) n K = ∀ c : Nat, es.length ≤ c → K (.pv (.i .i64 c)) [.upd n (.rowc sz es c)] := (rfl)
theorem Ac3 (sz es) : Ca (some (.row sz es)) = some es := (rfl)
theorem Ac4 (sz es c) : Ca (some (.rowc sz es c)) = some es := (rfl)
theorem Aam (sz es) : Bt (some (.row sz es)) = sz := (rfl)
theorem Aan (sz es c) : Bt (some (.rowc sz es c)) = sz := (rfl)
theorem Yw (h n z a b) : C8 h (.ov n z a b) = (Ca (h n)).map fun es => (es.take b).drop a := (rfl)
theorem Yx (h n) : C8 h (.os n) = Bl h (.os n) := (rfl)
theorem Ac1 (h n z a b) : Ek h (.ov n z a b) = if Bt (h n) = z then z else 0 := (rfl)
theorem Ac2 (h n) : Ek h (.os n) = Fc h (.os n) := (rfl)
theorem Aoo (d h sz x y K) : Ag d h (.cpy sz) [x, y] K = Hd h sz x y K := (rfl)
theorem Y0 (h sz n z a b y K) : Hd h sz (.ov n z a b) y K = (z = sz ∧ Gt (h n) n sz a (some b) (C8 h y) (Ek h y) K) := (rfl)
theorem Adb (sz' es n sz lo hi ys z K) : Gt (some (.row sz' es)) n sz lo (some hi) (some ys) z K = (sz = sz' ∧ (ys = [] ∨ z = sz) ∧
 K (.pv (.i .i64 ((min ys.length (hi - lo) : Nat) : Int))) [.upd n (.row sz (es.take lo ++ ys.take (hi - lo) ++ es.drop (lo + min ys.length (hi - lo))))]) := (rfl)
theorem Aou (d h a b z x k m K) : Ag d h (.apz a b z) [x, .pv (.i k m)] K = Hh h d a b z m x K := (rfl)
theorem Zb (h d a b z m n y lo hi K) : Hh h d a b z m (.ov n y lo hi) K = (lo = 0 ∧ Lg (h n) d a b z hi m K) := (rfl)
theorem Ady (sz' es c d sz bytes z hi m K) : Lg (some (.rowc sz' es c)) d sz bytes z hi m K = (sz = sz' ∧ 0 < m ∧ (c : Int) < hi + m ∧ (hi + m) * bytes ≤ 70368744177664 ∧ K (.os d) [.new d (.row sz (es.take hi ++ List.replicate m.toNat z))]) := (rfl)
theorem Aod (d h sz a b x l K) : Ag d h (.slv sz a b) (x :: l) K = Ik h sz a b x l K := (rfl)
theorem Xg (h sz a b n l K) : Ik h sz a b (.os n) l K = Xi n sz b (Ca (h n)) (Bt (h n)) (C5 a 0 l) K := (rfl)
theorem Ajh (n sz hi es z i l K) : Xi n sz hi (some es) z (some (i, l)) K = (sz = z ∧ Xh n sz es.length i (C5 hi es.length l) K) := (rfl)
theorem Ajg (n sz len i j l K) : Xh n sz len i (some (j, l)) K = (0 ≤ i ∧ i ≤ j ∧ j ≤ len ∧ K (.ov n sz i.toNat j.toNat) []) := (rfl)
theorem Aoc (d h sz x k j K) : Ag d h (.slx sz) [x, .pv (.i k j)] K = Kw h d sz x j [.pv (.i k j)] K := (rfl)
theorem Xf (h d sz n j l K) : Kw h d sz (.os n) j l K = Nc (h n) n d sz j (Il (.os n) h sz false true false l (Bl h (.os n)) K) K := (rfl)
theorem Xe (h d sz p j l K) : Kw h d sz (.pv p) j l K = Il (.pv p) h sz false true false l (Bl h (.pv p)) K := (rfl)
theorem Z8 (sz' es c n d sz j T K) : Nc (some (.rowc sz' es c)) n d sz j T K = (sz = sz' ∧ es.length ≤ j ∧ j ≤ c ∧ ∀ g : List (List PV), g.length = j.toNat - es.length → (∀ x ∈ g, x.length = sz) → K (.os d) [.del n, .new d (.row sz (es ++ g))]) := (rfl)
attribute [go_sem] Arw Agj Aqr Aqu Aqt Aqz Aqg Aqf Aba Acx Aop Adi Ac3 Ac4 Aam Aan Yw Yx Ac1 Ac2 Aoo Y0 Adb Aou Zb Ady Aod Xg Ajh Ajg Aoc Xf Xe Z8 Nat.sub_zero
end slices
section own
variable {P : Program} {F : Fr} {N : Nat} {ρ : Nat → Value} {s : FS} {a : Act} {w w' : World} {K : KK} {V : View}
theorem Sx {u : List HU} : ∀ (ts : List Nat) (s : FS), s.hup (ts.map HU.del ++ u) = (Aw s ts).hup u
 | [], s => by simp [Aw]
 | n :: ts, s => by
   simp only [List.map_cons, List.cons_append, FS.hup];rw [Sx ts];congr 1;refine FS.ext' (fun _ => rfl) (fun m => ?_);simp only [Aw, FS.seth, List.mem_cons];by_cases h1 : m ∈ ts
   · simp [h1]
   · by_cases h2 : m = n <;> simp [h1, h2]
def Qx (ρ : Nat → Value) (h : Nat → Option Blk) (ts : List Nat) (b : Nat) : Prop := ∃ n ∈ ts, ∃ blk, h n = some blk ∧ Bj (ρ n) = some b
theorem RelR.swapin (hR : RelR F N ρ s a w) (ts : List Nat) (d : Nat) (blk : Blk) (p : Value)
 (hos : w'.os = w.os) (htape : w'.tape = w.tape) (hout : w'.output = w.output) (hsize : w.heap.size ≤ w'.heap.size) (hblock : ∀ b, b < w.heap.size → ¬ Qx ρ s.h ts b → w'.heap[b]? = w.heap[b]?)
 (hid : ∀ b, Bj p = some b → (w.heap.size ≤ b ∧ b < w'.heap.size) ∨ Qx ρ s.h ts b)
 (hown : Own w' (vw F w' (Fw.upd ρ d p) (((Aw s ts).kill d).seth d (some blk))) (Fw.upd ρ d p) d blk) :
 RelR F N (Fw.upd ρ d p) (((Aw s ts).kill d).seth d (some blk)) a w' ∧ (vw F w ρ s).le (vw F w' (Fw.upd ρ d p) (((Aw s ts).kill d).seth d (some blk))) := by
 have hs : ∀ m x, (((Aw s ts).kill d).seth d (some blk)).h m = some x → (m = d ∧ x = blk) ∨ (m ≠ d ∧ m ∉ ts ∧ ∃ y, s.h m = some y ∧ x = y.kill d) := by
  intro m x hm;simp only [Aw, FS.seth, FS.kill] at hm;by_cases e : m = d
  · simp only [e, if_true] at hm; cases hm; exact .inl ⟨e, rfl⟩
  · simp only [e, if_false] at hm;by_cases e2 : m ∈ ts
    · simp [e2] at hm
    · simp only [e2, if_false] at hm;cases hy : s.h m with
      | none => rw [hy] at hm; cases hm
      | some y => rw [hy] at hm; cases hm; exact .inr ⟨e, e2, y, rfl, rfl⟩
 have mo : ∀ b, Qx ρ s.h ts b → Bb ρ s.h b := fun b ⟨n, _, y, h1, h2⟩ => ⟨n, y, h1, h2⟩
 have key : ∀ b, Bb (Fw.upd ρ d p) (((Aw s ts).kill d).seth d (some blk)).h b → Bb ρ s.h b ∨ (w.heap.size ≤ b ∧ b < w'.heap.size) := by
  rintro b ⟨m, x, hm, hb⟩;rcases hs m x hm with ⟨rfl, rfl⟩ | ⟨e1, e2, y, hy, rfl⟩
  · rw [An] at hb;rcases hid b hb with h | h
    · exact .inr h
    · exact .inl (mo b h)
  · rw [A3 e1] at hb; exact .inl ⟨m, y, hy, hb⟩
 have hV : (vw F w ρ s).le (vw F w' (Fw.upd ρ d p) (((Aw s ts).kill d).seth d (some blk))) := A8 fun b c ho hc => by
  have hlt := Di hc;refine ⟨fun hb => ?_, ?_⟩
  · rcases hb with hb | hb
    · rcases key b hb with h | h
      · exact ho (.inl h)
      · omega
    · exact ho (.inr hb)
  · rw [Bi (hblock b hlt fun h => ho (.inl (mo b h)))]; exact hc
 refine ⟨⟨⟨hos.trans hR.fr.os, htape.trans hR.fr.tape, hout.trans hR.fr.output, Nat.le_trans hR.fr.size hsize, fun b hb hm => ?_, hR.fr.hid, hR.fr.tab⟩, fun b hb => ?_, fun m x hm => ?_, fun m k x y b hm hk hbm hbk => ?_, fun m => ?_, hR.size, hR.defers⟩, hV⟩
 · rw [hblock b (Nat.lt_of_lt_of_le hb hR.fr.size) fun h => by
    rcases hR.may b (mo b h) with h1 | h1
    · omega
    · exact hm h1]
   exact hR.fr.block b hb hm
 · rcases key b hb with h | h
   · exact hR.may b h
   · exact .inl (Nat.le_trans hR.fr.size h.1)
 · rcases hs m x hm with ⟨rfl, rfl⟩ | ⟨e1, e2, y, hy, rfl⟩
   · exact hown
   · have ho := hR.own m y hy;exact (ho.congr (V' := vw F w ρ s) (w' := w') (fun _ _ x => x) (fun b hb => hblock b (ho.lt hb) fun ⟨n, hn, z, hz, hb'⟩ => e2 (by rw [hR.inj m n y z b hy hz hb hb']; exact hn))).kill hV e1
 · rcases hs m x hm with ⟨rfl, rfl⟩ | ⟨e1, e2, z, hz, rfl⟩
   · rcases hs k y hk with ⟨rfl, rfl⟩ | ⟨f1, f2, u, hu, rfl⟩
     · rfl
     · exfalso; rw [An] at hbm; rw [A3 f1] at hbk;rcases hid b hbm with h | ⟨n, hn, q, hq, hb'⟩
       · have := (hR.own k u hu).lt hbk; omega
       · exact f2 (by rw [hR.inj k n u q b hu hq hbk hb']; exact hn)
   · rcases hs k y hk with ⟨rfl, rfl⟩ | ⟨f1, f2, u, hu, rfl⟩
     · exfalso; rw [An] at hbk; rw [A3 e1] at hbm;rcases hid b hbk with h | ⟨n, hn, q, hq, hb'⟩
       · have := (hR.own m z hz).lt hbm; omega
       · exact e2 (by rw [hR.inj m n z q b hz hq hbm hb']; exact hn)
     · rw [A3 e1] at hbm; rw [A3 f1] at hbk;exact hR.inj m k z u b hz hu hbm hbk
 · show Conc _ _ ((s.t m).kill d) _;exact (hR.tmps m).kill hV
theorem Y4 (hm : P.follows .mixedOrders = true) {f N' : Nat} {rs : List Rv} {c : C} (hf : Bc P f = some (N', rs, c)) {F' : Fr} {s0 : FS} {vs : List Value} (h0 : F'.defs = []) (hok : F'.ok F'.w0) (hm0 : ∀ b, F'.M0 b → b < F'.w0.heap.size)
 (hR : RelR F' N' ρ s0 { tmps := (⟨vs⟩ : Array Value) ++ Array.replicate (N' - (⟨vs⟩ : Array Value).size) undef, defers := [] } w) {R : SV → (Nat → Option Blk) → Prop} (hrun : sx (Zp P F' N') c (Tr rs R) s0) :
 Calls P f ⟨vs⟩ w fun e w' => ∃ v ρ' s' a' y, e = .returned v ∧ RelR F' N' ρ' s' a' w' ∧ Conc (vw F' w' ρ' s') ρ' y v ∧ R y s'.h :=
 U2 hm hf h0 hok hm0 hR (R := fun y s => R y s.h) hrun
def D2 (h : Nat → Option Blk) : List Nat → List (Nat × Option Blk)
 | [] => []
 | n :: l => (n, h n) :: D2 h l
theorem Sq (h : Nat → Option Blk) (n : Nat) : ∀ ts : List Nat, lk none n (D2 h ts) = if n ∈ ts then h n else none
 | [] => by simp [D2, lk]
 | m :: ts => by
   simp only [D2, lk, Sq h n ts, List.mem_cons];by_cases e : n = m
   · subst e; simp
   · simp [e]
theorem Ag4 (hm : P.follows .mixedOrders = true) {f N' : Nat} {rs : List Rv} {c : C} (hf : Bc P f = some (N', rs, c)) {args : List SV} {h : Nat → Option Blk} {d : Nat} {sz : Nat} {es : List (List PV)} (hlen : args.length ≤ N')
 (hts : Bg args = Ay args)
 (hrun : ∀ F, sx (Zp P F N') c (Tr rs fun y g => ∃ n, y = .os n ∧ g n = some (.row sz es)) (mk (Cd 0 args) (D2 h (Bg args)))) :
 FunOk P f args h d (.os d) ((Bg args).map .del ++ [.new d (.row sz es)]) := by
 refine ⟨Bv hf, fun F N ρ s a w hR hh vs hc => ?_⟩;rw [hts];rw [hts] at hrun;generalize htt : Ay args = ts at *
 let F' : Fr := ⟨w, Qx ρ s.h ts, F.out ρ (Aw s ts).h, fun _ => undef, []⟩
 have hvl : vs.length = args.length := by
  clear hrun hlen hts hh htt
  induction args generalizing vs with
  | nil => simp only [ConcL] at hc; subst hc; rfl
  | cons x l ih =>
    simp only [ConcL] at hc;obtain ⟨v, us, rfl, _, h⟩ := hc;simp [ih _ h]
 have hlk : ∀ n, (mk (Cd 0 args) (D2 h ts)).h n = if n ∈ ts then s.h n else none := fun n => by
  simp only [mk, Sq];split
  · rename_i hn; rw [hh n hn]
  · rfl
 have how : ∀ b, Bb ρ (mk (Cd 0 args) (D2 h ts)).h b ↔ Qx ρ s.h ts b := fun b => by
  constructor
  · rintro ⟨n, x, h1, h2⟩;rw [hlk] at h1; split at h1
    · rename_i hn; exact ⟨n, hn, x, h1, h2⟩
    · cases h1
  · rintro ⟨n, hn, x, h1, h2⟩;exact ⟨n, x, by rw [hlk, if_pos hn]; exact h1, h2⟩
 have hoth : ∀ b, Bb ρ (Aw s ts).h b ↔ ∃ n, n ∉ ts ∧ ∃ x, s.h n = some x ∧ Bj (ρ n) = some b := fun b => by
  constructor
  · rintro ⟨n, x, h1, h2⟩;simp only [Aw] at h1; split at h1
    · cases h1
    · rename_i hn; exact ⟨n, hn, x, h1, h2⟩
  · rintro ⟨n, hn, x, h1, h2⟩;exact ⟨n, x, by simp only [Aw, if_neg hn]; exact h1, h2⟩
 have hview : Aj w (F'.out ρ (mk (Cd 0 args) (D2 h ts)).h) = vw F w ρ s := by
  show Aj w _ = Aj w _;congr 1;funext b;refine propext ⟨fun hb => ?_, fun hb => ?_⟩
  · rcases hb with hb | hb
    · obtain ⟨n, _, x, h1, h2⟩ := (how b).1 hb; exact .inl ⟨n, x, h1, h2⟩
    · rcases hb with hb | hb
      · obtain ⟨n, _, x, h1, h2⟩ := (hoth b).1 hb; exact .inl ⟨n, x, h1, h2⟩
      · exact .inr hb
  · rcases hb with ⟨n, x, h1, h2⟩ | hb
    · by_cases hn : n ∈ ts
      · exact .inl ((how b).2 ⟨n, hn, x, h1, h2⟩)
      · exact .inr (.inl ((hoth b).2 ⟨n, hn, x, h1, h2⟩))
    · exact .inr (.inr hb)
 have hR0 : RelR F' N' ρ (mk (Cd 0 args) (D2 h ts)) { tmps := (⟨vs⟩ : Array Value) ++ Array.replicate (N' - (⟨vs⟩ : Array Value).size) undef, defers := [] } w := by
  refine ⟨⟨rfl, rfl, rfl, Nat.le_refl _, fun _ _ _ => rfl, fun b hb => ⟨?_, fun hmi => ?_⟩, ⟨hR.tabW, fun p hp ⟨n, hn, x, h1, h2⟩ => hR.tabN hp ⟨n, x, h1, h2⟩⟩⟩, fun b hb => .inr ((how b).1 hb), fun n x hx => ?_, fun n m x y b hx hy hbx hby => ?_, fun n => ?_, by simp; omega, rfl⟩
  · rcases hb with hb | hb
    · obtain ⟨n, _, x, h1, h2⟩ := (hoth b).1 hb; exact (hR.own n x h1).lt h2
    · exact Nat.lt_of_lt_of_le (hR.fr.hid b hb).1 hR.fr.size
  · obtain ⟨n, hn, x, h1, h2⟩ := hmi;rcases hb with hb | hb
    · obtain ⟨m, hm, y, g1, g2⟩ := (hoth b).1 hb;exact hm (by rw [hR.inj m n y x b g1 h1 g2 h2]; exact hn)
    · exact hR.shown ⟨n, x, h1, h2⟩ hb
  · rw [hview];rw [hlk] at hx; split at hx
    · exact hR.own n x hx
    · cases hx
  · rw [hlk] at hx hy;split at hx
    · split at hy
      · exact hR.inj n m x y b hx hy hbx hby
      · cases hy
    · cases hx
  · rw [hview];have := Ed 0 n hc;simp only [Nat.zero_le, if_true, Nat.sub_zero] at this;simp only [mk];have he : ((⟨vs⟩ : Array Value) ++ Array.replicate (N' - (⟨vs⟩ : Array Value).size) undef).getD n undef = (vs[n]?).getD undef := by
     rw [Array.getD_eq_getD_getElem?];by_cases hn : n < vs.length
     · rw [Array.getElem?_append_left (by simpa using hn)]; simp
     · rw [Array.getElem?_append_right (by simpa using hn)];rw [List.getElem?_eq_none (by omega)];simp only [Array.getElem?_replicate, Option.getD_none];split <;> rfl
    have hN := Mr hf;unfold Fr.val;by_cases hb : n < D4
    · rw [if_pos hb, he]; exact this
    · rw [if_neg hb];rw [List.getElem?_eq_none (by omega)] at this; exact this
 refine Calls.mono (Y4 hm hf rfl hR0.fr (fun b ⟨n, hn, x, h1, h2⟩ => (hR.own n x h1).lt h2) hR0 (hrun F')) fun e w' he => ?_;obtain ⟨v, ρ', s', a', y, rfl, hR', hy, n, rfl, hn⟩ := he;simp only [Conc] at hy;have ho : ∀ b, Bj (ρ' n) = some b → Bb ρ' s'.h b := fun b hb => ⟨n, _, hn, hb⟩
 have hid : ∀ b, Bj (ρ' n) = some b → (w.heap.size ≤ b ∧ b < w'.heap.size) ∨ Qx ρ s.h ts b := fun b hb => by
  rcases hR'.may b (ho b hb) with h1 | h1
  · exact .inl ⟨h1, hR'.lt (ho b hb)⟩
  · exact .inr h1
 have hres := hR.swapin (w' := w') ts d (.row sz es) (ρ' n) hR'.fr.os hR'.fr.tape hR'.fr.output hR'.fr.size hR'.fr.block hid (by
  obtain ⟨base, cap, g1, g2, g3, g4, g5⟩ := hR'.own n _ hn;refine ⟨base, cap, by rw [An]; exact g1, g2, g3, g4, fun hcap => ?_⟩;obtain ⟨b, vs', ty, fr, k1, k2, k3, k4, k5, k6⟩ := g5 hcap;refine ⟨b, vs', ty, fr, k1, k2, k3, k4, k5, fun i c hi => (k6 i c hi).mono (A8 fun b' c' hno hc' => ⟨fun hb' => hno ?_, hc'⟩)⟩;rcases hb' with ⟨m, z, hm1, hm2⟩ | hb'
  · simp only [Aw, FS.seth, FS.kill] at hm1;by_cases hmd : m = d
    · subst hmd;rw [An] at hm2;exact .inl ⟨n, _, hn, hm2⟩
    · rw [A3 hmd] at hm2;simp only [hmd, if_false] at hm1;by_cases hmt : m ∈ ts
      · simp [hmt] at hm1
      · simp only [hmt, if_false] at hm1;obtain ⟨z', hz', _⟩ := Option.map_eq_some_iff.1 hm1;exact .inr (.inl ((hoth b').2 ⟨m, hmt, z', hz', hm2⟩))
  · exact .inr (.inr hb'))
 have e1 : s.hup (List.map HU.del ts ++ [HU.new d (Blk.row sz es)]) = ((Aw s ts).kill d).seth d (some (.row sz es)) := by rw [Sx]; rfl
 refine ⟨v, Fw.upd ρ d (ρ' n), rfl, by rw [e1]; exact hres.1, ?_⟩;simp only [Conc];exact ⟨by rw [An]; exact hy.1, hy.2⟩
theorem Acl (hm : P.follows .mixedOrders = true) {f N' : Nat} {rs : List Rv} {c : C} (hf : Bc P f = some (N', rs, c)) {args : List SV} {h : Nat → Option Blk} {d : Nat} {sz : Nat} {es : List (List PV)} (hlen : args.length ≤ N')
 (hargs : Az args = true) (hx : SV.closedL args = true ∨ ∀ c ∈ es, c.all PV.flat = true) (hrun : ∀ F, sx (Zp P F N') c (Tr rs fun y g => (∃ n, y = .os n ∧ g n = some (.row sz es)) ∨ ∃ z, y = .pv (.sl true z []) ∧ es = [] ∧ 0 < sz) (mk (Cd 0 (Bk h args)) [])) :
 FunOk P f args h d (.os d) [.new d (.row sz es)] := by
 refine ⟨Bv hf, fun F N ρ s a w hR hh vs hc => ?_⟩;refine Calls.mono (El hm hf (h := h) hlen hargs Nl hrun hR hh hc) fun e w' he => ?_;obtain ⟨v, rfl, hg, N'', ρ', s', a', y, hR', hy, hyy⟩ := he;rcases hyy with ⟨n, rfl, hn⟩ | ⟨z, rfl, rfl, hsz⟩
 case inr =>
  simp only [Conc] at hy;have hv : ∃ base, v = .slice base 0 0 := by
   cases hy with
   | sl full sz es b cap cs bl off arr hcap hfull hsz ha hcs hel =>
     have := hfull rfl;simp at this;subst this;exact ⟨b, rfl⟩
  obtain ⟨base, rfl⟩ := hv;obtain ⟨h1, _⟩ := (hR.grew hg).new (Grew.refl w') d (.row sz []) (.slice base 0 0) (fun b hb => by cases base <;> simp [Bj] at hb) (fun V' _ => ⟨base, 0, by rw [An]; rfl, Nat.le_refl _, hsz, by simp, fun h => absurd rfl h⟩);exact ⟨_, _, rfl, h1, C9⟩
 simp only [Conc] at hy;obtain ⟨base, cap, g1, g2, g3, g4, g5⟩ := hR'.own n _ hn;have hown : ∀ b, Bj (ρ' n) = some b → w.heap.size ≤ b ∧ b < w'.heap.size := fun b hb => by
  have ho : Bb ρ' s'.h b := ⟨n, _, hn, hb⟩
  exact ⟨(hR'.may b ho).resolve_right id, hR'.lt ho⟩
 have hnew := hR.adopt hg d (.row sz es) (ρ' n) hown fun hV => by
  refine ⟨base, cap, by rw [An]; exact g1, g2, g3, g4, fun hcap => ?_⟩;obtain ⟨b, vs', ty, fr, k1, k2, k3, k4, k5, k6⟩ := g5 hcap;refine ⟨b, vs', ty, fr, k1, k2, k3, k4, k5, fun i c hi => ?_⟩;rcases hx with hx | hx
  · obtain ⟨e1, _, _⟩ := Cc hx;rw [e1, Ep] at hR' k6;refine (k6 i c hi).mono (A8 fun b' c' ho hc' => ⟨fun hb' => ?_, hc'⟩);rcases hb' with ⟨m, z, hm1, hm2⟩ | hb'
    · by_cases hmd : m = d
      · subst hmd;rw [An] at hm2;exact ho (.inl ⟨n, _, hn, hm2⟩)
      · rw [A3 hmd] at hm2;simp only [FS.seth, FS.kill, hmd, if_false] at hm1;obtain ⟨z', hz', _⟩ := Option.map_eq_some_iff.1 hm1;exact ho (.inr (.inl ⟨m, z', hz', hm2⟩))
    · exact ho (.inr (.inr hb'))
  · exact Iu (hx c (List.mem_of_getElem? hi)) (k6 i c hi)
 refine ⟨v, _, rfl, hnew.1, ?_⟩;simp only [Conc];exact ⟨by rw [An]; exact hy.1, hy.2⟩
theorem Ahc (x : PV) (p : Nat → Prop) : (∃ n, SV.pv x = SV.os n ∧ p n) = False := by simp
theorem Acq (n : Nat) (q : Prop) : (∃ z, SV.os n = SV.pv (.sl true z []) ∧ q) = False := by simp
theorem Alt (z0 : Nat) (q : Prop) : (∃ z, SV.pv (.sl true z0 []) = SV.pv (.sl true z []) ∧ q) = q := propext ⟨fun ⟨_, _, h⟩ => h, fun h => ⟨z0, rfl, h⟩⟩
theorem Un (h) : D2 h [] = [] := (rfl)
theorem Sy (h n l) : D2 h (n :: l) = (n, h n) :: D2 h l := (rfl)
theorem Abt (n) : Jp (.os n) = [n] := (rfl)
theorem Abs (x) : Jp (.pv x) = [] := (rfl)
attribute [go_sem] Ahc Acq Alt Un Sy false_or or_false Abt Abs W3 Afo Ahl Ai2 Agu List.cons_append List.nil_append
end own
end Go.Proofs.YthleeikkpjiicaaDoor.Fw
namespace Go.Proofs.YthleeikkpjiicaaDoor.Fw
open Go.RowKit
variable {P : Program} {F : Fr} {N M : Nat} {ρ : Nat → Value} {s : FS} {a b : Act} {w w' : World} {V : View} {X : Zm}
def sh : Nat := 1000001
def gh : Nat := 1000000
theorem Up : gh = D4 := rfl
theorem T7 : sh = D4 + 1 := rfl
attribute [irreducible] sh gh
def FS.dn (s : FS) : FS := ⟨fun n => s.t (n + sh), s.h⟩
def FS.enter (s : FS) (args : List SV) : FS := ⟨fun n => if n < D4 then lk .dead n (Cd 0 args) else if n = gh then .pv (.i .i64 0) else s.t (n - sh), s.h⟩
def Jl : List Nat → List SV → List (Nat × SV)
 | p :: ps, x :: l => (p, x) :: Jl ps l
 | _, _ => []
def FS.round (s : FS) (ps : List Nat) (args : List SV) : FS := ⟨fun n => if n < D4 then lk (s.t (n + sh)) n (Jl ps args).reverse else if n = gh then .dead else s.t (n - sh), s.h⟩
def D3 (g : Int) : Option Code := if g = 0 then none else if g = 1 then some .ret else some (.exit (g - 2).toNat)
def C4 (fn : Nat) (tm : Array Value) (qs : Array Tmp) (as bd : Code) (D : Nat) (st : LoopState) (pe : Option Code) : Obj := .loop { state := st, pending := pe, fn, tmps := tm, params := qs, assign := as, body := bd, defers := D }
theorem Np (w : World) (l : Nat) (o o' : Obj) : (w.putObj l o).putObj l o' = w.putObj l o' := by
 simp only [World.putObj, World.mk.injEq, and_true, true_and];apply Array.ext_getElem?;intro i;simp only [Array.getElem?_setIfInBounds, Array.size_setIfInBounds];by_cases h : l = i
 · simp [h]
 · simp [h]
theorem R8 {w : World} {l : Nat} {o : Obj} (h : w.heap[l]? = some o) : w.putObj l o = w := by
 have : w.heap.setIfInBounds l o = w.heap := by
  apply Array.ext_getElem?;intro i;simp only [Array.getElem?_setIfInBounds];by_cases e : l = i
  · subst e;obtain ⟨h1, h2⟩ := Array.getElem?_eq_some_iff.1 h;simp [h1, h2]
  · simp [e]
 unfold World.putObj;rw [this]
theorem RelR.turn {F1 F2 : Fr} {s' : FS} (h : RelR F1 M ρ s b w) (e0 : F2.w0 = F1.w0) (e1 : F2.M0 = F1.M0) (e2 : F2.hid = F1.hid) (eh : s'.h = s.h) (hs : a.tmps.size = N) (hd : a.defers = F2.defs) (ht : ∀ n, Conc (Aj w (F1.out ρ s.h)) ρ (s'.t n) (F2.val a n)) : RelR F2 N ρ s' a w := by
 have ho : F2.out ρ s.h = F1.out ρ s.h := by unfold Fr.out; rw [e2]
 refine ⟨⟨by rw [e0]; exact h.fr.os, by rw [e0]; exact h.fr.tape, by rw [e0]; exact h.fr.output, by rw [e0]; exact h.fr.size, by rw [e0, e1]; exact h.fr.block, by rw [e0, e1, e2]; exact h.fr.hid, by rw [e0, e1]; exact h.fr.tab⟩, by rw [eh, e0, e1]; exact h.may, by rw [eh, ho]; exact h.own, by rw [eh]; exact h.inj, by rw [eh, ho]; exact ht, hs, hd⟩
def Ck (F : Fr) (a : Act) (w0 : World) (B : Nat) (l : Nat) (o : LoopState → Option Code → Obj) (g : Int) : Fr :=
 ⟨w0.putObj l (o (if g = 0 then .ready else .done) (D3 g)), fun b => F.M0 b ∨ (F.w0.heap.size ≤ b ∧ b < B), F.hid, fun n => if n = gh then .int .i64 g else F.val a (n - sh), []⟩
theorem Mm (F a w0 B l o g) : (Ck F a w0 B l o g).val b gh = .int .i64 g := by
 unfold Fr.val;rw [if_neg (by have := Up; omega)];simp only [Ck, if_true]
theorem Q3 (F a w0 B l o g) (n : Nat) : (Ck F a w0 B l o g).val b (n + sh) = F.val a n := by
 have h1 := Up;have h2 := T7;rw [Fr.val, if_neg (by omega)];simp only [Ck];rw [if_neg (by omega), Nat.add_sub_cancel]
theorem Agm (F a w0 B l o g g') {n : Nat} (h : n ≠ gh) : (Ck F a w0 B l o g').val b n = (Ck F a w0 B l o g).val b n := by
 unfold Fr.val;split
 · rfl
 · simp only [Ck];rw [if_neg h, if_neg h]
structure ItCtx (P : Program) (N : Nat) (ps : List Nat) (ca cb : C) (l : Nat) (XI : Zm) : Prop where
 ctx : ∃ (F : Fr) (a : Act) (w0 : World) (B fn D : Nat) (qs : Array Tmp) (as bd : Code),
  (XI = fun F' => ∃ g : Int, 0 ≤ g ∧ F' = Ck F a w0 B l (C4 fn a.tmps qs as bd D) g) ∧ A1 P N as = some ca ∧ A1 P N bd = some cb ∧ qs.toList = ps ∧ (∀ p ∈ ps, p < N ∧ p < D4) ∧
  a.tmps.size = N ∧ B ≤ l ∧ l < w0.heap.size ∧ ¬ F.M0 l
theorem Ys (ps : List (Nat × Value)) : ∀ (t : Array Value), (ps.foldl (fun t (p, v) => t.setIfInBounds p v) t).size = t.size := by
 induction ps with
 | nil => intro t; rfl
 | cons p ps ih => intro t; rw [List.foldl_cons, ih]; simp
theorem Sb {x0 : SV} : ∀ {ps : List Nat} {args : List SV} {vs : List Value} {t : Array Value} {n : Nat}, (∀ p ∈ ps, p < t.size) → ConcL V ρ args vs → ps.length = vs.length → ∀ (l : List (Nat × SV)),
 Conc V ρ (lk x0 n l) (t.getD n undef) → Conc V ρ (lk x0 n ((Jl ps args).reverse ++ l)) (((ps.zip vs).foldl (fun t (p, v) => t.setIfInBounds p v) t).getD n undef)
 | [], args, vs, t, n, _, hc, hl, l, h => by simpa [Jl] using h
 | p :: ps, args, vs, t, n, hp, hc, hl, l, h => by
   cases args with
   | nil => simp only [ConcL] at hc; subst hc; simp at hl
   | cons x args =>
     simp only [ConcL] at hc;obtain ⟨v, us, rfl, h1, h2⟩ := hc;have := Sb (x0 := x0) (ps := ps) (args := args) (vs := us) (t := t.setIfInBounds p v) (n := n) (fun q hq => by simpa using hp q (List.mem_cons_of_mem _ hq)) h2 (by simpa using hl) ((p, x) :: l) (by
      simp only [lk];rw [Array.getD_eq_getD_getElem?, Array.getElem?_setIfInBounds];by_cases e : n = p
      · subst e; simp [hp n List.mem_cons_self, h1]
      · rw [if_neg e, if_neg (Ne.symm e)];rw [Array.getD_eq_getD_getElem?] at h; exact h)
     simpa [Jl] using this
theorem H1 : ∀ {l : List SV} {vs : List Value}, ConcL V ρ l vs → vs.length = l.length
 | [], vs, h => by simp only [ConcL] at h; subst h; rfl
 | x :: l, vs, h => by
   simp only [ConcL] at h;obtain ⟨v, us, rfl, _, h⟩ := h;simp [H1 h]
def asQ (K : FS → Prop) : Bd
 | .normal, s => K s
 | _, _ => False
def Adl (K : KK) : Bd
 | .normal, s => K (.pv (.b true)) [.set s.dn.t s.dn.h]
 | .ret, s => K (.pv (.b false)) [.set (s.dn.set gh (.pv (.i .i64 1))).t s.dn.h]
 | .exit k, s => K (.pv (.b false)) [.set (s.dn.set gh (.pv (.i .i64 (k + 2 : Nat)))).t s.dn.h]
def Um (s : FS) : Option SV → FS
 | some y => s.set gh y
 | none => s
theorem T9 {FB : Fr} {s2 : FS} {a3 : Act} {F : Fr} {a : Act} {w0 : World} {B l : Nat} {o : LoopState → Option Code → Obj} {g g' : Int} {x : Option SV} (h : RelR FB N ρ s2 a3 w)
 (e0 : FB.w0 = w0.putObj l (o (if g' = 0 then .ready else .done) (D3 g'))) (e1 : FB.M0 = (Ck F a w0 B l o g).M0) (e2 : FB.hid = F.hid) (e3 : FB.x = fun n => if sh ≤ n then (Ck F a w0 B l o g).val b (n - sh) else undef)
 (hb : b.tmps.size = M) (hbd : b.defers = []) (hx : (g' = g ∧ x = none) ∨ x = some (.pv (.i .i64 g'))) :
 RelR (Ck F a w0 B l o g') M ρ (Um s2.dn x) b w := by
 have ho : (Ck F a w0 B l o g').out ρ s2.h = FB.out ρ s2.h := by
  unfold Fr.out;rw [e2]; rfl
 have hh : ∀ n, (Um s2.dn x).h n = s2.h n := fun n => by cases x <;> rfl
 have hH : (Um s2.dn x).h = s2.h := funext hh;refine ⟨⟨?_, ?_, ?_, ?_, ?_, ?_, ?_⟩, ?_, ?_, ?_, fun n => ?_, hb, hbd⟩
 · rw [h.fr.os, e0]; rfl
 · rw [h.fr.tape, e0]; rfl
 · rw [h.fr.output, e0]; rfl
 · have := h.fr.size; rw [e0] at this; exact this
 · have := h.fr.block; rw [e0, e1] at this; exact this
 · have := h.fr.hid; rw [e0, e1, e2] at this; exact this
 · have := h.fr.tab; rw [e0, e1] at this; exact this
 · rw [hH]; have := h.may; rw [e0, e1] at this; exact this
 · rw [hH, ho]; exact h.own
 · rw [hH]; exact h.inj
 · rw [hH, ho];have key : n ≠ gh ∨ x = none → Conc (Aj w (FB.out ρ s2.h)) ρ (s2.dn.t n) ((Ck F a w0 B l o g').val b n) := fun hn => by
    have := h.tmps (n + sh);have hge : ¬ n + sh < D4 := by have := T7; omega
    rw [Fr.val, if_neg hge, e3] at this;simp only [Nat.add_sub_cancel, Nat.le_add_left, if_true] at this;have hv : (Ck F a w0 B l o g').val b n = (Ck F a w0 B l o g).val b n := by
     by_cases e : n = gh
     · rcases hn with hn | hn
       · exact absurd e hn
       · rcases hx with ⟨rfl, _⟩ | hx
         · rfl
         · rw [hn] at hx; cases hx
     · exact Agm _ _ _ _ _ _ _ _ e
    rw [hv]; exact this
   cases x with
   | none => exact key (.inr rfl)
   | some y =>
     simp only [Um, FS.set];by_cases hn : n = gh
     · subst hn;rw [if_pos rfl];rcases hx with ⟨_, hx⟩ | hx
       · cases hx
       · cases hx;rw [Mm];simp only [Conc];exact .i _ _
     · rw [if_neg hn];exact key (.inl hn)
theorem Ais (hm : P.follows .mixedOrders = true) {ps : List Nat} {ca cb : C} {l : Nat} {XI : Zm} (hc : ItCtx P N ps ca cb l XI) {args : List SV} {K : KK} (hg : s.t gh = .pv (.i .i64 0)) (hlen : args.length = ps.length)
 (hrun : ∀ XA XB, sx (En P (some l) XA N) ca (asQ fun s1 => sx (En P (some l) XB N) cb (Adl K) s1) (s.round ps args)) : (En P none XI M).yld l args K s := by
 obtain ⟨F, a, w0, B, fn, D, qs, as, bd, rfl, hca, hcb, hqs, hps, hsz, hBl, hl0, hM⟩ := hc;show Aek P _ M l args K s;rintro F' ρ b w ⟨g, hg0, rfl⟩ hR vs hvs;have eg : g = 0 := by
  have := hR.tmps gh;rw [hg, Mm] at this;simp only [Conc] at this;generalize hv : Value.int .i64 g = v at this;cases this;cases hv; rfl
 subst eg;have hO : ∀ st pe, ∃ r : Loop, C4 fn a.tmps qs as bd D st pe = .loop r ∧ r = { state := st, pending := pe, fn, tmps := a.tmps, params := qs, assign := as, body := bd, defers := D } := fun st pe => ⟨_, rfl, rfl⟩
 have hlM : ¬ (F.M0 l ∨ (F.w0.heap.size ≤ l ∧ l < B)) := fun h => h.elim hM fun h => by omega
 have hlw : l < (w0.putObj l (C4 fn a.tmps qs as bd D .ready none)).heap.size := by simpa using hl0
 have hrec : w.heap[l]? = some (C4 fn a.tmps qs as bd D .ready none) := by
  rw [hR.fr.block l hlw hlM];exact World.putObj_heap_same hl0
 have hy := run_yield (P := P) (args := (⟨vs⟩ : Array Value)) hrec (by
  have := H1 hvs;show vs.length = qs.size;rw [this, hlen, ← hqs]; simp)
 refine ⟨fn, _, as, bd, hy, roundIn_of_wpIn (F := Gd none) trivial ?_⟩;simp only
 let FA : Fr := ⟨w0.putObj l (C4 fn a.tmps qs as bd D .ready none), fun b => F.M0 b ∨ (F.w0.heap.size ≤ b ∧ b < B), F.hid, fun n => if sh ≤ n then (Ck F a w0 B l (C4 fn a.tmps qs as bd D) 0).val b (n - sh) else undef, []⟩
 have hRA : RelR FA N ρ (s.round ps args) { tmps := (qs.zip (⟨vs⟩ : Array Value)).foldl (fun t (p, v) => t.setIfInBounds p v) a.tmps, defers := [] } w := by
  refine RelR.turn hR rfl rfl rfl rfl ?_ rfl fun n => ?_;rotate_left
  · have e : (qs.zip (⟨vs⟩ : Array Value)).foldl (fun t (p, v) => t.setIfInBounds p v) a.tmps = (ps.zip vs).foldl (fun t (p, v) => t.setIfInBounds p v) a.tmps := by
     rw [← Array.foldl_toList, Array.toList_zip, hqs]
    unfold Fr.val;simp only [FS.round];by_cases h1 : n < D4
    · rw [if_pos h1, if_pos h1, e];have := Sb (x0 := s.t (n + sh)) (ps := ps) (t := a.tmps) (n := n) (fun p hp => by rw [hsz]; exact (hps p hp).1) hvs (by rw [H1 hvs, hlen]) [] (by
       simp only [lk];have := hR.tmps (n + sh);rw [Q3, Fr.val_lt h1] at this;exact this)
      rw [List.append_nil] at this;exact this
    · rw [if_neg h1, if_neg h1];by_cases h2 : n = gh
      · rw [if_pos h2]; simp only [Conc]
      · rw [if_neg h2];have h3 : sh ≤ n := by have := Up; have := T7; omega
        have e4 : FA.x n = (Ck F a w0 B l (C4 fn a.tmps qs as bd D) 0).val b (n - sh) := by
         show (if sh ≤ n then _ else undef) = _;rw [if_pos h3]
        rw [e4];exact hR.tmps (n - sh)
  · show ((qs.zip (⟨vs⟩ : Array Value)).foldl (fun t (p, v) => t.setIfInBounds p v) a.tmps).size = N;rw [← Array.foldl_toList, Ys]; exact hsz
 refine wpIn_mono (G2 (r := some l) (X := fun F => F = FA) hm hca (hrun _ (fun F => F = { FA with w0 := FA.w0.putObj l (C4 fn a.tmps qs as bd D .busy none) })) ⟨FA, rfl, ρ, hRA⟩) fun e a1 w1 he => ?_;cases e with
 | normal =>
   obtain ⟨s1, ⟨_, rfl, ρ1, hR1⟩, hrun2⟩ := he;have hrec1 : w1.heap[l]? = some (C4 fn a.tmps qs as bd D .ready none) := by
    rw [hR1.fr.block l hlw hlM];exact World.putObj_heap_same hl0
   refine ⟨_, run_beginRound hrec1 rfl, ?_⟩;have hR2 := hR1.obj (C4 fn a.tmps qs as bd D .busy none) hrec1 rfl hlw hlM;refine wpIn_mono (G2 (r := some l) (X := fun F => F = { FA with w0 := FA.w0.putObj l (C4 fn a.tmps qs as bd D .busy none) }) hm hcb hrun2 ⟨_, rfl, ρ1, hR2⟩) fun e a3 w3 he => ?_;have fin : ∀ (s2 : FS) (ρ2 : Nat → Value) (g' : Int) (x : Option SV) (jump : Option Code), RelR { FA with w0 := FA.w0.putObj l (C4 fn a.tmps qs as bd D .busy none) } N ρ2 s2 a3 w3 → jump = D3 g' → (jump.isNone = true ↔ g' = 0) → ((g' = 0 ∧ x = none) ∨ x = some (.pv (.i .i64 g'))) → 0 ≤ g' →
    K (.pv (.b jump.isNone)) [.set (Um s2.dn x).t s2.dn.h] →
    ∃ v w', (Instr.endRound l jump).run P w3 = .ok v w' ∧ ∃ v' x u F' ρ', Ending.returned v = .returned v' ∧ K x u ∧ (∃ g : Int, 0 ≤ g ∧ F' = Ck F a w0 B l (C4 fn a.tmps qs as bd D) g) ∧ RelR F' M ρ' (s.hup u) b w' ∧ Conc (vw F' w' ρ' (s.hup u)) ρ' x v' := by
    intro s2 ρ2 g' x jump hR3 hj hji hx hg' hK;have hrec3 : w3.heap[l]? = some (C4 fn a.tmps qs as bd D .busy none) := by
     rw [hR3.fr.block l (by simpa [FA] using hlw) hlM];exact World.putObj_heap_same hlw
    have hst : (if jump.isNone then LoopState.ready else .done) = (if g' = 0 then .ready else .done) := by
     by_cases h : g' = 0
     · rw [if_pos h, if_pos (hji.2 h)]
     · rw [if_neg h, if_neg (fun e => h (hji.1 e))]
    refine ⟨_, _, run_endRound jump hrec3, _, .pv (.b jump.isNone), _, Ck F a w0 B l (C4 fn a.tmps qs as bd D) g', ρ2, rfl, hK, ⟨g', hg', rfl⟩, ?_, ?_⟩
    · have hR4 := hR3.obj (C4 fn a.tmps qs as bd D (if g' = 0 then .ready else .done) (D3 g')) hrec3 rfl (by simpa [FA] using hlw) hlM;have hb := T9 (M := M) (b := b) (F := F) (a := a) (w0 := w0) (B := B) (l := l) (o := C4 fn a.tmps qs as bd D) (g := 0) (g' := g') (x := x) hR4 (by simp only [FA, Np]) rfl rfl rfl hR.size hR.defers hx;have ew : w3.putObj l (.loop { state := if jump.isNone then .ready else .done, pending := jump, fn, tmps := a.tmps, params := qs, assign := as, body := bd, defers := D }) = w3.putObj l (C4 fn a.tmps qs as bd D (if g' = 0 then .ready else .done) (D3 g')) := by
       rw [hst, hj]; rfl
      show RelR _ M ρ2 (s.hup [.set _ _]) b (w3.putObj l (.loop { state := if jump.isNone then .ready else .done, pending := jump, fn, tmps := a.tmps, params := qs, assign := as, body := bd, defers := D }));rw [ew];have eh : s.hup [.set (Um s2.dn x).t s2.dn.h] = (Um s2.dn x) := by cases x <;> rfl
      rw [eh]; exact hb
    · simp only [Conc]; exact .b _
   cases e with
   | normal =>
     obtain ⟨s2, ⟨_, rfl, ρ2, hR3⟩, hK⟩ := he;exact fin s2 ρ2 0 none none hR3 rfl (by simp) (.inl ⟨rfl, rfl⟩) (by omega) hK
   | ret =>
     obtain ⟨s2, ⟨_, rfl, ρ2, hR3⟩, hK⟩ := he;exact fin s2 ρ2 1 (some (.pv (.i .i64 1))) (some .ret) hR3 rfl (by simp) (.inr rfl) (by omega) hK
   | exit k =>
     obtain ⟨s2, ⟨_, rfl, ρ2, hR3⟩, hK⟩ := he;refine fin s2 ρ2 ((k + 2 : Nat) : Int) (some (.pv (.i .i64 ((k + 2 : Nat) : Int)))) (some (.exit k)) hR3 ?_ (by simp; omega) (.inr rfl) (by omega) hK;unfold D3;rw [if_neg (by omega), if_neg (by omega)];congr 2; omega
   | goto _ => exact he.elim
   | panic _ => exact he.elim
   | outgrown => exact he.elim
 | exit id => obtain ⟨_, _, h⟩ := he; exact h.elim
 | ret => obtain ⟨_, _, h⟩ := he; exact h.elim
 | goto _ => exact he.elim
 | panic _ => exact he.elim
 | outgrown => exact he.elim
end Go.Proofs.YthleeikkpjiicaaDoor.Fw
namespace Go.Proofs.YthleeikkpjiicaaDoor.Fw
open Go.RowKit
variable {P : Program} {F : Fr} {N M : Nat} {ρ : Nat → Value} {s : FS} {a b : Act} {w w' : World} {V : View} {X : Zm}
def itK (Q : Bd) (s : FS) : SV → Prop
 | .pv (.i _ g) => if g = 0 then Q .normal s.dn else if g = 1 then Q .ret s.dn else Q (.exit (g - 2).toNat) s.dn
 | _ => False
def itQ (Q : Bd) : Bd
 | .normal, s => itK Q s (s.t gh)
 | .ret, s => itK Q s (s.t gh)
 | _, _ => False
theorem Su (F a w0 B l o g) (h : Nat → Option Blk) : (Ck F a w0 B l o g).out ρ h = F.out ρ h := rfl
theorem Hw (F a w0 B l o g) (b) : (Ck F a w0 B l o g).M0 b = (F.M0 b ∨ (F.w0.heap.size ≤ b ∧ b < B)) := rfl
theorem Agl (F a w0 B l o) (h : w0.heap[l]? = some (o .ready none)) : (Ck F a w0 B l o 0).w0 = w0 := by
 show w0.putObj l (o (if (0 : Int) = 0 then .ready else .done) (D3 0)) = w0;exact R8 h
theorem Ajv (hm : P.follows .mixedOrders = true) {F0 : Fr} {f : Nat} {cap : List SV} {ps : List Nat} {ca cb cf : C} {Q : Bd} (hf : Bc P f = some (M, [], cf)) (hlen : cap.length + 1 ≤ M)
 (hrun : ∀ l XI, ItCtx P N ps ca cb l XI → sx (En P none XI M) cf (itQ Q) (s.enter (.fn (.yield l) [] :: cap))) : (En P none (Desc F0) N).rng f cap ps ca cb Q s := by
 show Aiq P none (Desc F0) N f cap ps ca cb Q s;intro as bd g qs hca hcb hqs hps F ρ a w hd hR hg;obtain ⟨fn, code, h1, h2, h3, h4, h5, h6⟩ := Mq hf;have hMb := Mr hf;subst h4;simp only [Conc] at hg;obtain ⟨cv, hgv, hcap⟩ := hg;refine wpIn_rangeFunc fun fn' _ => ?_;obtain ⟨O, hO⟩ : ∃ O, O = C4 fn' a.tmps qs as bd w.heap.size := ⟨_, rfl⟩
 obtain ⟨W1, hW1⟩ : ∃ W1, (w.alloc (.deferred (some []))).alloc (O .ready none) = W1 := ⟨_, rfl⟩
 have hl1 : W1.heap[w.heap.size + 1]? = some (O .ready none) := by
  rw [← hW1]; have := World.alloc_heap_new (w.alloc (.deferred (some []))) (O .ready none); rwa [World.size_alloc] at this
 have hD1 : W1.heap[w.heap.size]? = some (.deferred (some [])) := by
  rw [← hW1]; exact (Below.heap_alloc _ _ _ (by simp)).trans (World.alloc_heap_new w _)
 have hbel : Below w.heap.size w W1 := by
  rw [← hW1]; exact (((Below.refl _ w).alloc (Nat.le_refl _) _).alloc (by simp) _)
 have hsz1 : w.heap.size + 1 < W1.heap.size := (Array.getElem?_eq_some_iff.1 hl1).1;have hgrew := Grew.of_below hbel;have hR1 := hR.grew hgrew;have hMw : ∀ b, F.M0 b → b < w.heap.size := fun b hb => Nat.lt_of_lt_of_le (hd.m0 b hb) hR.fr.size;have hent : Kc P f := Bv hf;refine ⟨w.heap.size + 1, [{ target := .collected w.heap.size, args := #[] }], W1, { target := .fn (.func f) ⟨cv⟩, args := #[.func (.yield (w.heap.size + 1)) #[] #[]] }, W1, f,
  (#[Value.func (.yield (w.heap.size + 1)) #[] #[]] : Array Value) ++ ⟨cv⟩, W1, ?_, ?_, fun _ _ => trivial, ?_, fun h => (nomatch h), ?_⟩
 · rw [← hW1, hO]; exact run_enterLoop_outer _ _ _ _ _
 · simp only [resolve, hgv];simp [go_sem]
 · simp only [invoke];exact Ji hent
 have hctx : ItCtx P N ps ca cb (w.heap.size + 1) (fun F' => ∃ g : Int, 0 ≤ g ∧ F' = Ck F a W1 w.heap.size (w.heap.size + 1) O g) :=
  ⟨F, a, W1, w.heap.size, fn', w.heap.size, qs, as, bd, by rw [hO], hca, hcb, hqs, hps, hR.size, by omega, hsz1, fun h => by have := hMw _ h; omega⟩
 have hl0 : F.w0.heap.size ≤ w.heap.size := hR.fr.size;have hRI : RelR (Ck F a W1 w.heap.size (w.heap.size + 1) O 0) fn.ntmps ρ (s.enter (.fn (.yield (w.heap.size + 1)) [] :: cap)) { tmps := ((#[Value.func (.yield (w.heap.size + 1)) #[] #[]] : Array Value) ++ (⟨cv⟩ : Array Value)) ++ Array.replicate (fn.ntmps - ((#[Value.func (.yield (w.heap.size + 1)) #[] #[]] : Array Value) ++ (⟨cv⟩ : Array Value)).size) undef, defers := [] } W1 := by
  have hcl := H1 hcap;refine ⟨?_, fun b hb => ?_, ?_, hR1.inj, fun n => ?_, by simp; omega, rfl⟩
  · have e := Agl F a W1 w.heap.size (w.heap.size + 1) O hl1;refine ⟨by rw [e], by rw [e], by rw [e], by rw [e]; exact Nat.le_refl _, fun b _ _ => by rw [e], fun b hb => ?_, ⟨by rw [e]; exact hR1.tabW, fun p hp hm => by
     rw [Hw] at hm;rcases hm with hm | hm
     · exact hR.fr.tab.2 p hp hm
     · have := Di (hR.fr.tab.1 p hp); omega⟩⟩
    rw [e, Hw];have := hR.fr.hid b hb;exact ⟨by omega, fun h => h.elim this.2 fun h => by omega⟩
  · rw [Hw];rcases hR.may b hb with h | h
    · exact .inr (.inr ⟨h, hR.lt hb⟩)
    · exact .inr (.inl h)
  · rw [Su]; exact hR1.own
  · rw [Su];show Conc _ ρ (if n < D4 then _ else if n = gh then _ else _) _;by_cases hn : n < D4
    · rw [if_pos hn, Fr.val_lt hn];have hcv : ConcL (vw F W1 ρ s) ρ (.fn (.yield (w.heap.size + 1)) [] :: cap) (.func (.yield (w.heap.size + 1)) #[] #[] :: cv) := by
       simp only [ConcL];exact ⟨_, _, rfl, by simp only [Conc, ConcL]; exact ⟨[], rfl, rfl⟩, hcap.mono (hR.le_of_grew hgrew)⟩
      have := Ed 0 n hcv;simp only [Nat.zero_le, if_true, Nat.sub_zero] at this;have he : (((#[Value.func (.yield (w.heap.size + 1)) #[] #[]] : Array Value) ++ (⟨cv⟩ : Array Value)) ++ Array.replicate (fn.ntmps - ((#[Value.func (.yield (w.heap.size + 1)) #[] #[]] : Array Value) ++ (⟨cv⟩ : Array Value)).size) undef).getD n undef = ((Value.func (.yield (w.heap.size + 1)) #[] #[] :: cv)[n]?).getD undef := by
       have ea : ((#[Value.func (.yield (w.heap.size + 1)) #[] #[]] : Array Value) ++ (⟨cv⟩ : Array Value)) = (⟨.func (.yield (w.heap.size + 1)) #[] #[] :: cv⟩ : Array Value) := Array.toList_inj.1 (by simp);rw [ea, Array.getD_eq_getD_getElem?];by_cases hn : n < (Value.func (.yield (w.heap.size + 1)) #[] #[] :: cv).length
       · rw [Array.getElem?_append_left (by simpa using hn)]; simp
       · rw [Array.getElem?_append_right (by simpa using hn)];rw [List.getElem?_eq_none (by omega)];simp only [Array.getElem?_replicate, Option.getD_none];split <;> rfl
      rw [he]; exact this
    · rw [if_neg hn];by_cases h2 : n = gh
      · rw [if_pos h2, h2, Mm]; simp only [Conc]; exact .i _ _
      · rw [if_neg h2];have h3 : n = (n - sh) + sh := by have := Up; have := T7; omega
        have e4 : (Ck F a W1 w.heap.size (w.heap.size + 1) O 0).val { tmps := ((#[Value.func (.yield (w.heap.size + 1)) #[] #[]] : Array Value) ++ (⟨cv⟩ : Array Value)) ++ Array.replicate (fn.ntmps - ((#[Value.func (.yield (w.heap.size + 1)) #[] #[]] : Array Value) ++ (⟨cv⟩ : Array Value)).size) undef, defers := [] } n = F.val a (n - sh) := by
         conv => lhs; rw [h3]
         exact Q3 _ _ _ _ _ _ _ _
        rw [e4];exact hR1.tmps (n - sh)
 refine callsIn_of_wp (F := Gd none) (n := 0 - 1) h1 h3 trivial (wpIn_mono (n := 0 - 1) (G2 hm h6 (hrun _ _ hctx) ⟨_, ⟨0, by omega, rfl⟩, ρ, hRI⟩) fun e a' w' he => ?_);have hres : ∀ (F' : Fr) (ρ' : Nat → Value) (s' : FS), RelR F' fn.ntmps ρ' s' a' w' → ∃ v, (results fn a'.tmps).run P w' = .ok v w' := fun F' ρ' s' hR' => by
  obtain ⟨l, v, _, _, k3⟩ := Lq (P := P) (K := fun _ => True) hR' h5 trivial;exact ⟨v, k3⟩
 have fin : ∀ (s' : FS), RelX (fun F' => ∃ g : Int, 0 ≤ g ∧ F' = Ck F a W1 w.heap.size (w.heap.size + 1) O g) fn.ntmps s' a' w' → itK Q s' (s'.t gh) → a'.defers = [] ∧ ∃ v, (results fn a'.tmps).run P w' = .ok v w' ∧
  rangePost (Gd none) 0 P (w.heap.size + 1) (Kb (Desc F0) N Q) { a with defers := [{ target := .collected w.heap.size, args := #[] }] ++ a.defers } (.returned v) w' := by
  rintro s' ⟨_, ⟨g, hg0, rfl⟩, ρ', hR'⟩ hq;obtain ⟨v, hv⟩ := hres _ _ _ hR';refine ⟨hR'.defers, v, hv, ?_⟩;have hlM : ¬ (Ck F a W1 w.heap.size (w.heap.size + 1) O g).M0 (w.heap.size + 1) := by
   rw [Hw];rintro (h | h)
   · have := hMw _ h; omega
   · omega
  have hlt : w.heap.size + 1 < (Ck F a W1 w.heap.size (w.heap.size + 1) O g).w0.heap.size := by
   show _ < (W1.putObj _ _).heap.size;rw [World.putObj_size]; exact hsz1
  have hrec : w'.heap[w.heap.size + 1]? = some (O (if g = 0 then .ready else .done) (D3 g)) := by
   rw [hR'.fr.block _ hlt hlM];exact World.putObj_heap_same hsz1
  have hend := run_endLoop (P := P) (w := w') (l := w.heap.size + 1) (r := { state := if g = 0 then .ready else .done, pending := D3 g, fn := fn', tmps := a.tmps, params := qs, assign := as, body := bd, defers := w.heap.size }) (by rw [hrec, hO]; rfl) (by simp only; split <;> simp);refine ⟨D3 g, _, hend, ?_⟩;obtain ⟨oe, hoe⟩ : ∃ oe : Obj, oe = .loop { state := .exhausted, pending := D3 g, fn := fn', tmps := a.tmps, params := qs, assign := as, body := bd, defers := w.heap.size } := ⟨_, rfl⟩
  have hR2 := hR'.obj oe hrec (by rw [hO]; rfl) hlt hlM;have ew0 : (Ck F a W1 w.heap.size (w.heap.size + 1) O g).w0.putObj (w.heap.size + 1) oe = W1.putObj (w.heap.size + 1) oe := Np _ _ _ _;have hR3 : RelR ⟨W1.putObj (w.heap.size + 1) oe, (Ck F a W1 w.heap.size (w.heap.size + 1) O g).M0, F.hid, F.x, [{ target := .collected w.heap.size, args := #[] }] ++ F.defs⟩ N ρ' s'.dn { a with defers := [{ target := .collected w.heap.size, args := #[] }] ++ a.defers } (w'.putObj (w.heap.size + 1) oe) := by
   refine RelR.turn hR2 ew0.symm rfl rfl rfl hR.size (by show _ ++ a.defers = _ ++ F.defs; rw [hR.defers]) fun n => ?_;have := hR2.tmps (n + sh);have e5 : ({ Ck F a W1 w.heap.size (w.heap.size + 1) O g with w0 := (Ck F a W1 w.heap.size (w.heap.size + 1) O g).w0.putObj (w.heap.size + 1) oe } : Fr).val a' (n + sh) = F.val a n := Q3 F a W1 w.heap.size (w.heap.size + 1) O g n;rw [e5] at this;exact this
  have hdesc : Desc F0 ⟨W1.putObj (w.heap.size + 1) oe, (Ck F a W1 w.heap.size (w.heap.size + 1) O g).M0, F.hid, F.x, [{ target := .collected w.heap.size, args := #[] }] ++ F.defs⟩ := by
   have hb := hd.base;have hW : ∀ b, b < w.heap.size → (W1.putObj (w.heap.size + 1) oe).heap[b]? = w.heap[b]? := fun b hlt => by
    rw [World.putObj_heap_other (by omega)]; exact hgrew.block b hlt
   have hs1 : (W1.putObj (w.heap.size + 1) oe).heap.size = W1.heap.size := World.putObj_size;refine ⟨⟨?_, ?_, ?_, ?_, fun b hlt hm => ?_, hb.hid, hb.tab⟩, fun b h => ?_, fun b h => ?_, hd.hid, hd.x, ⟨w.heap.size, rfl, ?_, ?_, ?_, ?_, ?_⟩, ?_⟩
   · exact (hgrew.os.trans hR.fr.os).trans hb.os
   · exact (hgrew.tape.trans hR.fr.tape).trans hb.tape
   · exact (hgrew.output.trans hR.fr.output).trans hb.output
   · show _ ≤ (W1.putObj (w.heap.size + 1) oe).heap.size;rw [hs1]; have := hb.size; omega
   · show (W1.putObj (w.heap.size + 1) oe).heap[b]? = _;have h8 := hb.size;rw [hW b (by omega), hR.fr.block b (by omega) fun e => ?_]
     · exact hb.block b hlt hm
     · rcases hd.may b (.inr e) with h9 | h9
       · omega
       · exact hm h9
   · show b < (W1.putObj (w.heap.size + 1) oe).heap.size;rw [hs1];rcases h with h | h
     · have := hMw b h; omega
     · omega
   · have h' : (W1.putObj (w.heap.size + 1) oe).heap.size ≤ b ∨ (F.M0 b ∨ (F.w0.heap.size ≤ b ∧ b < w.heap.size)) := h;rw [hs1] at h';have h8 := hb.size;rcases h' with h | h | h
     · exact .inl (by omega)
     · exact hd.may b (.inr h)
     · exact .inl (by omega)
   · have := hb.size; omega
   · show _ < (W1.putObj (w.heap.size + 1) oe).heap.size;rw [hs1]; omega
   · rw [Hw];rintro (h | h)
     · have := hMw _ h; omega
     · omega
   · show (W1.putObj (w.heap.size + 1) oe).heap[w.heap.size]? = _;rw [World.putObj_heap_other (by omega)]; exact hD1
   · have hmk := hd.marks;intro e he;clear hR3 hR2 hR hR1 hRI hR';generalize F.defs = ds at hmk he
     induction ds with
     | nil => cases he
     | cons d ds ih =>
       obtain ⟨⟨E, rfl, _, k2, _⟩, hmk⟩ := hmk;rcases List.mem_cons.1 he with rfl | he
       · intro e;simp only [Target.collected.injEq] at e;omega
       · exact ih hmk he
   · have hbl := hR.fr.block;have key : ∀ (FF : Fr), FF.w0 = W1.putObj (w.heap.size + 1) oe → FF.M0 = (Ck F a W1 w.heap.size (w.heap.size + 1) O g).M0 → ∀ ds, Tt F0 F ds → Tt F0 FF ds := fun FF f1 f2 ds hmk => by
      induction ds with
      | nil => trivial
      | cons d ds ih =>
        obtain ⟨⟨E, rfl, k1, k2, k3, k4, k5⟩, hmk⟩ := hmk;refine ⟨⟨E, rfl, k1, ?_, ?_, ?_, k5⟩, ih hmk⟩
        · rw [f1, hs1]; omega
        · rw [f2, Hw];rintro (h | h)
          · exact k3 h
          · omega
        · rw [f1, hW E (by omega), hbl E k2 k3]; exact k4
     exact key ⟨W1.putObj (w.heap.size + 1) oe, (Ck F a W1 w.heap.size (w.heap.size + 1) O g).M0, F.hid, F.x, [{ target := .collected w.heap.size, args := #[] }] ++ F.defs⟩ rfl rfl _ hd.marks
  have hghv : ∃ k, s'.t gh = .pv (.i k g) := by
   have := hR'.tmps gh;rw [Mm] at this;generalize s'.t gh = z at hq this;unfold itK at hq;split at hq
   · rename_i k g';simp only [Conc] at this;cases this;exact ⟨_, rfl⟩
   · exact hq.elim
  obtain ⟨k, hk⟩ := hghv;rw [hk] at hq;simp only [itK] at hq;rw [← hoe];have hrel : RelX (Desc F0) N s'.dn { a with defers := [{ target := .collected w.heap.size, args := #[] }] ++ a.defers } (w'.putObj (w.heap.size + 1) oe) := ⟨_, hdesc, ρ', hR3⟩
  unfold D3;by_cases e0 : g = 0
  · rw [if_pos e0] at hq ⊢;exact ⟨s'.dn, hrel, hq⟩
  · rw [if_neg e0] at hq ⊢;by_cases e1 : g = 1
    · rw [if_pos e1] at hq ⊢;exact wpIn_ret ⟨s'.dn, hrel, hq⟩
    · rw [if_neg e1] at hq ⊢;exact wpIn_exit ⟨s'.dn, hrel, hq⟩
 cases e with
 | normal => obtain ⟨s', h, hq⟩ := he; exact fin s' h hq
 | ret => obtain ⟨s', h, hq⟩ := he; exact fin s' h hq
 | exit id => obtain ⟨_, _, h⟩ := he; exact h.elim
 | goto _ => exact he.elim
 | panic _ => exact he.elim
 | outgrown => exact he.elim
end Go.Proofs.YthleeikkpjiicaaDoor.Fw
namespace Go.Proofs.YthleeikkpjiicaaDoor.Fw
open Go.RowKit
def Zn : List (Nat × SV) → List (Nat × SV)
 | [] => []
 | (j, x) :: l => (j + sh, x) :: Zn l
def Yy : List (Nat × SV) → List (Nat × SV)
 | [] => []
 | (j, x) :: l => if sh ≤ j then (j - sh, x) :: Yy l else Yy l
def Ir : List (Nat × SV) → List (Nat × SV)
 | [] => []
 | (j, x) :: l => if j < D4 then (j, x) :: Ir l else Ir l
theorem Hs {α : Type} (d : α) (n : Nat) : ∀ (l m : List (Nat × α)), lk d n (l ++ m) = lk (lk d n m) n l
 | [], m => rfl
 | (j, x) :: l, m => by simp only [List.cons_append, lk, Hs d n l m]
theorem Mi {α : Type} (d : α) (n : Nat) : ∀ (l : List (Nat × α)), (∀ p ∈ l, p.1 ≠ n) → lk d n l = d
 | [], _ => rfl
 | (j, x) :: l, h => by
   simp only [lk];rw [if_neg (fun e => h (j, x) List.mem_cons_self e.symm)];exact Mi d n l fun p hp => h p (List.mem_cons_of_mem _ hp)
theorem N1 (n : Nat) : ∀ l : List (Nat × SV), lk .dead n (Zn l) = if sh ≤ n then lk .dead (n - sh) l else .dead
 | [] => by simp [Zn, lk]
 | (j, x) :: l => by
   simp only [Zn, lk, N1 n l];by_cases h : sh ≤ n
   · simp only [h, if_true];by_cases e : n = j + sh
     · rw [if_pos e, if_pos (by omega)]
     · rw [if_neg e, if_neg (by omega)]
   · rw [if_neg (by omega), if_neg h, if_neg h]
theorem Qz (n : Nat) : ∀ l : List (Nat × SV), lk .dead n (Yy l) = lk .dead (n + sh) l
 | [] => by simp [Yy, lk]
 | (j, x) :: l => by
   simp only [Yy, lk];by_cases h : sh ≤ j
   · simp only [h, if_true, lk, Qz n l];by_cases e : n = j - sh
     · rw [if_pos e, if_pos (by omega)]
     · rw [if_neg e, if_neg (by omega)]
   · rw [if_neg h, if_neg (by omega), Qz n l]
theorem Qy (n : Nat) : ∀ l : List (Nat × SV), lk .dead n (Ir l) = if n < D4 then lk .dead n l else .dead
 | [] => by simp [Ir, lk]
 | (j, x) :: l => by
   simp only [Ir, lk];by_cases h : j < D4
   · simp only [h, if_true, lk, Qy n l];by_cases e : n = j
     · subst e; simp [h]
     · simp [e]
   · rw [if_neg h, Qy n l];by_cases hn : n < D4
     · simp only [hn, if_true]; rw [if_neg (by omega)]
     · simp [hn]
theorem Ti : ∀ (args : List SV) (k : Nat), ∀ p ∈ Cd k args, p.1 < k + args.length
 | [], k => by simp [Cd]
 | x :: l, k => by
   intro p hp;simp only [Cd, List.mem_cons] at hp;rcases hp with rfl | hp
   · simp
   · have := Ti l (k + 1) p hp;simp only [List.length_cons]; omega
theorem Sc : ∀ (ps : List Nat) (args : List SV), ∀ p ∈ Jl ps args, p.1 ∈ ps
 | [], args => by simp [Jl]
 | q :: ps, [] => by simp [Jl]
 | q :: ps, x :: args => by
   intro p hp;simp only [Jl, List.mem_cons] at hp;rcases hp with rfl | hp
   · simp
   · exact List.mem_cons_of_mem _ (Sc ps args p hp)
theorem Acz (t h) (args : List SV) (hl : args.length ≤ D4) : (mk t h).enter args = mk (Cd 0 args ++ (gh, .pv (.i .i64 0)) :: Zn t) h := by
 have h1 := Up;have h2 := T7;unfold FS.enter mk;congr 1;funext n;simp only;rw [Hs];by_cases hn : n < D4
 · rw [if_pos hn];have : lk SV.dead n ((gh, .pv (.i .i64 0)) :: Zn t) = .dead := by
    simp only [lk];rw [if_neg (by omega), N1, if_neg (by omega)]
   rw [this]
 · rw [if_neg hn, Mi _ n (Cd 0 args) fun p hp e => by have := Ti args 0 p hp; omega];simp only [lk];by_cases e : n = gh
   · rw [if_pos e, if_pos e]
   · rw [if_neg e, if_neg e, N1, if_pos (by omega)]
theorem Ap3 (t h) : (mk t h).dn = mk (Yy t) h := by
 unfold FS.dn mk;congr 1;funext n;simp only [Qz]
theorem Aao (t h) (ps : List Nat) (args : List SV) (hp : ∀ p ∈ ps, p < D4) : (mk t h).round ps args = mk ((Jl ps args).reverse ++ (Ir (Yy t) ++ Zn t)) h := by
 have h1 := Up;have h2 := T7;unfold FS.round mk;congr 1;funext n;simp only;rw [Hs, Hs];by_cases hn : n < D4
 · rw [if_pos hn];have e1 : lk SV.dead n (Zn t) = .dead := by rw [N1, if_neg (by omega)]
   rw [e1, Qy, if_pos hn, Qz]
 · have hm : ∀ d : SV, lk d n (Jl ps args).reverse = d := fun d => Mi _ _ _ fun p hpp e => by
    have := hp _ (Sc ps args p (List.mem_reverse.1 hpp)); omega
   have hm2 : ∀ d : SV, lk d n (Ir (Yy t)) = d := fun d => Mi _ _ _ fun p hpp e => by
    have : ∀ l : List (Nat × SV), ∀ p ∈ Ir l, p.1 < D4 := fun l => by
     induction l with
     | nil => simp [Ir]
     | cons q l ih =>
       obtain ⟨j, x⟩ := q;intro p hp;simp only [Ir] at hp;split at hp
       · rcases List.mem_cons.1 hp with rfl | hp
         · assumption
         · exact ih p hp
       · exact ih p hp
    have := this _ p hpp; omega
   rw [if_neg hn, hm, hm2, N1];by_cases e : n = gh
   · rw [if_pos e, if_neg (by omega)]
   · rw [if_neg e, if_pos (by omega)]
theorem Aad : sh = 1000001 := by rw [T7]; rfl
theorem Alh : gh = 1000000 := by rw [Up]; rfl
theorem Afi : Zn [] = [] := (rfl)
theorem Aae (j x l) : Zn ((j, x) :: l) = (j + 1000001, x) :: Zn l := by simp only [Zn, Aad]
theorem Ahh : Yy [] = [] := (rfl)
theorem Ac6 (j x l) : Yy ((j, x) :: l) = if 1000001 ≤ j then (j - 1000001, x) :: Yy l else Yy l := by simp only [Yy, Aad]
theorem Abq : Ir [] = [] := (rfl)
theorem X0 (j x l) : Ir ((j, x) :: l) = if j ≤ 999999 then (j, x) :: Ir l else Ir l := by
 have hb : D4 = 1000000 := rfl;simp only [Ir];by_cases h : j ≤ 999999
 · rw [if_pos h, if_pos (by omega)]
 · rw [if_neg h, if_neg (by omega)]
theorem Aax (l) : Jl [] l = [] := by cases l <;> rfl
theorem Xq (p x ps l) : Jl (p :: ps) (x :: l) = (p, x) :: Jl ps l := (rfl)
theorem Aq1 (K s) : asQ K .normal s = K s := (rfl)
theorem Ahm (K s) : Adl K .normal s = K (.pv (.b true)) [.set s.dn.t s.dn.h] := (rfl)
theorem Ahn (K s k) : Adl K (.exit k) s = K (.pv (.b false)) [.set (s.dn.set gh (.pv (.i .i64 (k + 2 : Nat)))).t s.dn.h] := (rfl)
theorem Apf (Q s) : itQ Q .normal s = itK Q s (s.t gh) := (rfl)
theorem Ape (Q s) : itQ Q .ret s = itK Q s (s.t gh) := (rfl)
theorem Aph (Q s k) : itK Q s (.pv (.i k 0)) = Q .normal s.dn := by simp [itK]
theorem Apg (Q s k) (n : Nat) : itK Q s (.pv (.i k ((n + 2 : Nat) : Int))) = Q (.exit n) s.dn := by
 simp only [itK];rw [if_neg (by omega), if_neg (by omega)];congr 2; omega
theorem Akw (t h) : (⟨(mk t h).t, (mk t h).h⟩ : FS) = mk t h := (rfl)
theorem Af6 (t t' h) : (⟨(mk t h).t, (mk t' h).h⟩ : FS) = mk t h := (rfl)
theorem Ajy (rs R s) : Ael rs R .normal s = Nk rs R s := (rfl)
theorem Ajx (rs R s) : Ael rs R .ret s = Nk rs R s := (rfl)
theorem Apn (n z cs x) : SV.frzv n z cs (.pv x) = .pv x := (rfl)
theorem Alj (n z cs m x) : SV.frzv n z cs (.vec m x) = .vec m x := (rfl)
theorem App (n z cs f l) : SV.frzv n z cs (.fn f l) = .fn f (SV.frzvL n z cs l) := (rfl)
theorem Apo (n z cs a b c d) : SV.frzv n z cs (.pi a b c d) = .pi a b c d := (rfl)
theorem Ar1 (n z cs m o) : SV.frzv n z cs (.p m o) = if n = m then .pi z [cs] 0 o else .p m o := (rfl)
theorem Ag1 (n z cs) : SV.frzvL n z cs [] = [] := (rfl)
theorem Aci (n z cs x l) : SV.frzvL n z cs (x :: l) = SV.frzv n z cs x :: SV.frzvL n z cs l := (rfl)
theorem Ag0 (n z cs) : Jw n z cs [] = [] := (rfl)
theorem Ach (n z cs j x l) : Jw n z cs ((j, x) :: l) = (j, x.frzv n z cs) :: Jw n z cs l := (rfl)
theorem Ag2 (n z cs) : Dd n z cs [] = [] := (rfl)
theorem Ack (n z cs j l) : Dd n z cs ((j, none) :: l) = (j, none) :: Dd n z cs l := (rfl)
theorem Acj (n z cs j x l) : Dd n z cs ((j, some x) :: l) = if j = n then (j, none) :: Dd n z cs l else (j, some (x.frzv n z cs)) :: Dd n z cs l := by
 simp only [Dd]; split <;> rfl
theorem Ag3 (n z cs x) : Blk.frzv n z cs (.var x) = .var (x.frzv n z cs) := (rfl)
theorem Ait {T : List (Nat × SV)} {H : List (Nat × Option Blk)} {s' : FS} (n : Nat) {sz : Nat} {es : List (List PV)} (hn : lk none n H = some (.row sz es)) (h : Wk (mk (Rc n (.sl false sz es) T) (Jy n (.sl false sz es) H)) s') : Wk (mk T H) s' :=
 .frz n sz es hn (by rw [Acm]; exact h)
theorem Vq {T : List (Nat × SV)} {H : List (Nat × Option Blk)} {s' : FS} (n : Nat) {x : SV} {cs : List PV} (hn : lk none n H = some (.var x)) (hc : x.cells? = some cs) (h : Wk (mk (Jw n x.width cs T) (Dd n x.width cs H)) s') : Wk (mk T H) s' :=
 .frzv n x cs hn hc (by rw [Ag5]; exact h)
attribute [go_sem] Afi Aae Ahh Ac6 Abq X0 Aax Xq Aq1 Ahm Ahn Apf Ape Aph Apg Akw Af6 Ajy Ajx Ap3 Alh Apn Alj App Apo Ar1 Ag1 Aci Ag0 Ach Ag2 Ack Acj Ag3 List.reverse_cons List.reverse_nil
end Go.Proofs.YthleeikkpjiicaaDoor.Fw
namespace Go.Proofs.YthleeikkpjiicaaDoor.Fw
open Go.RowKit
variable {P : Program} {F : Fr} {N : Nat} {ρ ρ' : Nat → Value} {s : FS} {a : Act} {w w' : World} {V V' : View}
end Go.Proofs.YthleeikkpjiicaaDoor.Fw
namespace Go.Proofs.YthleeikkpjiicaaDoor.Fw
open Go.RowKit
section
variable {E : Env}
end
attribute [go_sem] An7 Xv Xw Xx
end Go.Proofs.YthleeikkpjiicaaDoor.Fw
namespace Go.Proofs.YthleeikkpjiicaaDoor.Fw
open Go.RowKit
variable {P : Program} {F : Fr} {N : Nat} {ρ : Nat → Value} {s : FS} {a : Act} {w : World} {V : View} {π : Nat → Nat}
mutual
def SV.rn (π : Nat → Nat) : SV → SV
 | .p m o => .p (π m) o
 | .ps m o => .ps (π m) o
 | .pr m s i o => .pr (π m) s i o
 | .os m => .os (π m)
 | .ov m z a b => .ov (π m) z a b
 | .agg l => .agg (SV.rnL π l)
 | .tup l => .tup (SV.rnL π l)
 | .fn f l => .fn f (SV.rnL π l)
 | x => x
def SV.rnL (π : Nat → Nat) : List SV → List SV
 | [] => []
 | x :: l => SV.rn π x :: SV.rnL π l
end
def Blk.rn (π : Nat → Nat) : Blk → Blk
 | .var x => .var (x.rn π)
 | b => b
def HU.rn (π : Nat → Nat) : HU → HU
 | .new n b => .new (π n) (b.rn π)
 | .upd n b => .upd (π n) (b.rn π)
 | .del n => .del (π n)
 | .frz n x => .frz (π n) x
 | .set t h => .set (fun k => (t k).rn π) (fun n => (h (π n)).map (Blk.rn π))
def FS.rn (s : FS) (π : Nat → Nat) : FS := ⟨fun k => (s.t k).rn π, fun n => (s.h (π n)).map (Blk.rn π)⟩
mutual
theorem Mz (π : Nat → Nat) : ∀ x : SV, (x.rn π).width = x.width
 | .agg l => by simp only [SV.rn, SV.width]; exact Pb π l
 | .pv _ => rfl
 | .vec _ _ => rfl
 | .tup _ => rfl
 | .p _ _ => rfl
 | .ps _ _ => rfl
 | .pr _ _ _ _ => rfl
 | .pi _ _ _ _ => rfl
 | .os _ => rfl
 | .ov _ _ _ _ => rfl
 | .fn _ _ => rfl
 | .dead => rfl
theorem Pb (π : Nat → Nat) : ∀ l : List SV, SV.widthL (SV.rnL π l) = SV.widthL l
 | [] => rfl
 | x :: l => by simp only [SV.rnL, SV.widthL, Mz π x, Pb π l]
end
mutual
theorem Conc.rn (hπ : ∀ n, π (π n) = n) : ∀ {x : SV} {v}, Conc V ρ x v → Conc V (fun n => ρ (π n)) (x.rn π) v
 | .pv x, v, h => by simp only [SV.rn, Conc] at *; exact h
 | .vec n cs, v, h => by simp only [SV.rn, Conc] at *; exact h
 | .agg l, v, h => by simp only [SV.rn, Conc] at *; obtain ⟨vs, a, b⟩ := h; exact ⟨vs, a, Cells.rn hπ b⟩
 | .tup l, v, h => by simp only [SV.rn, Conc] at *; obtain ⟨vs, a, b⟩ := h; exact ⟨vs, a, ConcL.rn hπ b⟩
 | .p m off, v, h => by simp only [SV.rn, Conc, hπ] at *; exact h
 | .ps m off, v, h => by simp only [SV.rn, Conc, hπ] at *; exact h
 | .pr m sz i off, v, h => by simp only [SV.rn, Conc, hπ] at *; exact h
 | .pi sz es i off, v, h => by simp only [SV.rn, Conc] at *; exact h
 | .os m, v, h => by simp only [SV.rn, Conc, hπ] at *; exact h
 | .ov m z a b, v, h => by simp only [SV.rn, Conc, hπ] at *; exact h
 | .fn f cap, v, h => by simp only [SV.rn, Conc] at *; obtain ⟨vs, a, b⟩ := h; exact ⟨vs, a, ConcL.rn hπ b⟩
 | .dead, v, h => by simp only [SV.rn, Conc]
theorem ConcL.rn (hπ : ∀ n, π (π n) = n) : ∀ {l : List SV} {vs}, ConcL V ρ l vs → ConcL V (fun n => ρ (π n)) (SV.rnL π l) vs
 | [], vs, h => by simp only [SV.rnL, ConcL] at *; exact h
 | x :: l, vs, h => by simp only [SV.rnL, ConcL] at *; obtain ⟨u, us, a, b, c⟩ := h; exact ⟨u, us, a, Conc.rn hπ b, ConcL.rn hπ c⟩
theorem Cells.rn (hπ : ∀ n, π (π n) = n) : ∀ {l : List SV} {vs}, Cells V ρ l vs → Cells V (fun n => ρ (π n)) (SV.rnL π l) vs
 | [], vs, h => by simp only [SV.rnL, Cells] at *; exact h
 | x :: l, vs, h => by
   simp only [SV.rnL, Cells] at *;obtain ⟨u, us, a, b, c, d, e⟩ := h;exact ⟨u, us, a, Conc.rn hπ b, by rw [Mz]; exact c, d, Cells.rn hπ e⟩
end
mutual
theorem Aap (hπ : ∀ n, π (π n) = n) : ∀ x : SV, (x.rn π).rn π = x
 | .pv x => rfl
 | .vec n cs => rfl
 | .agg l => by simp only [SV.rn, Ge hπ l]
 | .tup l => by simp only [SV.rn, Ge hπ l]
 | .p m off => by simp only [SV.rn, hπ]
 | .ps m off => by simp only [SV.rn, hπ]
 | .pr m sz i off => by simp only [SV.rn, hπ]
 | .pi sz es i off => rfl
 | .os m => by simp only [SV.rn, hπ]
 | .ov m z a b => by simp only [SV.rn, hπ]
 | .fn f cap => by simp only [SV.rn, Ge hπ cap]
 | .dead => rfl
theorem Ge (hπ : ∀ n, π (π n) = n) : ∀ l : List SV, SV.rnL π (SV.rnL π l) = l
 | [] => rfl
 | x :: l => by simp only [SV.rnL, Aap hπ x, Ge hπ l]
end
theorem Ww (hπ : ∀ n, π (π n) = n) (b : Blk) : (b.rn π).rn π = b := by
 cases b with
 | var x => simp only [Blk.rn, Aap hπ x]
 | row sz es => rfl
 | rowc sz es c => rfl
 | it l p => rfl
theorem Own.rn (hπ : ∀ n, π (π n) = n) {n : Nat} {blk : Blk} (h : Own w V ρ (π n) blk) : Own w V (fun n => ρ (π n)) n (blk.rn π) := by
 cases blk with
 | var x =>
   obtain ⟨b, vs, ty, fr, u, g1, g2, g3, g4, g5, g6, g7⟩ := h;exact ⟨b, vs, ty, fr, u, g1, g2, g3, g4.rn hπ, g5, by rw [Mz]; exact g6, g7⟩
 | row sz es => exact h
 | rowc sz es c => exact h
 | it l p => exact h
theorem RelR.rn (hπ : ∀ n, π (π n) = n) (h : RelR F N ρ s a w) : RelR F N (fun n => ρ (π n)) (s.rn π) a w := by
 have hh : ∀ n x, (s.rn π).h n = some x → ∃ y, s.h (π n) = some y ∧ x = y.rn π := fun n x hx => by
  obtain ⟨y, h1, h2⟩ := Option.map_eq_some_iff.1 hx;exact ⟨y, h1, h2.symm⟩
 have how : ∀ b, Bb (fun n => ρ (π n)) (s.rn π).h b ↔ Bb ρ s.h b := fun b => by
  constructor
  · rintro ⟨n, x, h1, h2⟩;obtain ⟨y, h3, _⟩ := hh n x h1;exact ⟨π n, y, h3, h2⟩
  · rintro ⟨n, x, h1, h2⟩;exact ⟨π n, x.rn π, by simp only [FS.rn, hπ, h1]; rfl, by simpa only [hπ] using h2⟩
 have hV : Aj w (F.out (fun n => ρ (π n)) (s.rn π).h) = Aj w (F.out ρ s.h) := by
  congr 1;funext b;exact propext (or_congr_left (how b))
 refine ⟨h.fr, fun b hb => h.may b ((how b).1 hb), fun n x hx => ?_, fun n m x y b hn hm hbn hbm => ?_, fun n => ?_, h.size, h.defers⟩
 · obtain ⟨y, h1, rfl⟩ := hh n x hx;rw [hV];exact (h.own (π n) y h1).rn hπ
 · obtain ⟨x', h1, _⟩ := hh n x hn;obtain ⟨y', h2, _⟩ := hh m y hm;have := h.inj (π n) (π m) x' y' b h1 h2 hbn hbm;have := congrArg π this;simpa only [hπ] using this
 · rw [hV];exact (h.tmps n).rn hπ
mutual
theorem Q2 (hπ : ∀ n, π (π n) = n) (n : Nat) : ∀ x : SV, (x.kill n).rn π = (x.rn π).kill (π n)
 | .pv x => rfl
 | .vec m cs => rfl
 | .agg l => by simp only [SV.kill, SV.rn, Jr hπ n l]
 | .tup l => by simp only [SV.kill, SV.rn, Jr hπ n l]
 | .p m off => by simp only [SV.kill, SV.rn, (La hπ n m)]; split <;> simp only [SV.rn]
 | .ps m off => by simp only [SV.kill, SV.rn, (La hπ n m)]; split <;> simp only [SV.rn]
 | .pr m sz i off => by simp only [SV.kill, SV.rn, (La hπ n m)]; split <;> simp only [SV.rn]
 | .pi sz es i off => rfl
 | .os m => by simp only [SV.kill, SV.rn, (La hπ n m)]; split <;> simp only [SV.rn]
 | .ov m z a b => by simp only [SV.kill, SV.rn, (La hπ n m)]; split <;> simp only [SV.rn]
 | .fn f cap => by simp only [SV.kill, SV.rn, Jr hπ n cap]
 | .dead => rfl
theorem Jr (hπ : ∀ n, π (π n) = n) (n : Nat) : ∀ l : List SV, SV.rnL π (SV.killL n l) = SV.killL (π n) (SV.rnL π l)
 | [] => rfl
 | x :: l => by simp only [SV.killL, SV.rnL, Q2 hπ n x, Jr hπ n l]
theorem La (hπ : ∀ n, π (π n) = n) (n m : Nat) : (π n = π m) = (n = m) := propext ⟨fun h => by have := congrArg π h; simpa only [hπ] using this, fun h => by rw [h]⟩
end
mutual
theorem Uq (hπ : ∀ n, π (π n) = n) (n : Nat) (v : PV) : ∀ x : SV, (x.frz n v).rn π = (x.rn π).frz (π n) v
 | .pv x => rfl
 | .vec m cs => rfl
 | .agg l => by simp only [SV.frz, SV.rn, Mp hπ n v l]
 | .tup l => by simp only [SV.frz, SV.rn, Mp hπ n v l]
 | .p m off => rfl
 | .ps m off => rfl
 | .pr m sz i off => rfl
 | .pi sz es i off => rfl
 | .os m => by simp only [SV.frz, SV.rn, (La hπ n m)]; split <;> simp only [SV.rn]
 | .ov m z a b => rfl
 | .fn f cap => by simp only [SV.frz, SV.rn, Mp hπ n v cap]
 | .dead => rfl
theorem Mp (hπ : ∀ n, π (π n) = n) (n : Nat) (v : PV) : ∀ l : List SV, SV.rnL π (SV.frzL n v l) = SV.frzL (π n) v (SV.rnL π l)
 | [] => rfl
 | x :: l => by simp only [SV.frzL, SV.rnL, Uq hπ n v x, Mp hπ n v l]
end
theorem Adn (hπ : ∀ n, π (π n) = n) (n : Nat) (b : Blk) : (b.kill n).rn π = (b.rn π).kill (π n) := by
 cases b with
 | var x => simp only [Blk.kill, Blk.rn, Q2 hπ n x]
 | row sz es => rfl
 | rowc sz es c => rfl
 | it l p => rfl
theorem Ahs (hπ : ∀ n, π (π n) = n) (n : Nat) (v : PV) (b : Blk) : (b.frz n v).rn π = (b.rn π).frz (π n) v := by
 cases b with
 | var x => simp only [Blk.frz, Blk.rn, Uq hπ n v x]
 | row sz es => rfl
 | rowc sz es c => rfl
 | it l p => rfl
theorem Aip (hπ : ∀ n, π (π n) = n) (n m : Nat) : (π n = m) = (n = π m) := propext ⟨fun h => by rw [← h, hπ], fun h => by rw [h, hπ]⟩
theorem Aac (hπ : ∀ n, π (π n) = n) (n : Nat) (s : FS) : (s.kill n).rn π = (s.rn π).kill (π n) := by
 refine FS.ext' (fun k => Q2 hπ n _) (fun k => ?_);simp only [FS.kill, FS.rn, Option.map_map];cases s.h (π k) with
 | none => rfl
 | some b => simp only [Option.map_some, Function.comp, Adn hπ n b]
theorem Qh (hπ : ∀ n, π (π n) = n) (n : Nat) (b : Option Blk) (s : FS) : (s.seth n b).rn π = (s.rn π).seth (π n) (b.map (Blk.rn π)) := by
 refine FS.ext' (fun k => rfl) (fun k => ?_);simp only [FS.seth, FS.rn, Aip hπ k n];split <;> rfl
theorem Afk (hπ : ∀ n, π (π n) = n) (n : Nat) (v : PV) (s : FS) : (s.frz n v).rn π = (s.rn π).frz (π n) v := by
 refine FS.ext' (fun k => Uq hπ n v _) (fun k => ?_);simp only [FS.frz, FS.rn, Aip hπ k n, Option.map_map];split
 · rfl
 · cases s.h (π k) with
   | none => rfl
   | some b => simp only [Option.map_some, Function.comp, Ahs hπ n v b]
theorem Lc (hπ : ∀ n, π (π n) = n) : ∀ (u : List HU) (s : FS), (s.hup u).rn π = (s.rn π).hup (u.map (HU.rn π))
 | [], s => rfl
 | .new n b :: u, s => by simp only [FS.hup, List.map_cons, HU.rn, Lc hπ u, Qh hπ, Aac hπ]; rfl
 | .upd n b :: u, s => by simp only [FS.hup, List.map_cons, HU.rn, Lc hπ u, Qh hπ]; rfl
 | .del n :: u, s => by simp only [FS.hup, List.map_cons, HU.rn, Lc hπ u, Qh hπ]; rfl
 | .frz n v :: u, s => by simp only [FS.hup, List.map_cons, HU.rn, Lc hπ u, Afk hπ]
 | .set t h :: u, s => by simp only [FS.hup, List.map_cons, HU.rn, Lc hπ u]; rfl
mutual
theorem Ani (hπ : ∀ n, π (π n) = n) {k : Nat} : ∀ {x : SV}, k ∈ tn (x.rn π) → π k ∈ tn x
 | .p m o, h => by simp only [SV.rn, tn, List.mem_singleton] at *; rw [h, hπ]
 | .ps m o, h => by simp only [SV.rn, tn, List.mem_singleton] at *; rw [h, hπ]
 | .pr m z i o, h => by simp only [SV.rn, tn, List.mem_singleton] at *; rw [h, hπ]
 | .os m, h => by simp only [SV.rn, tn, List.mem_singleton] at *; rw [h, hπ]
 | .ov m z a b, h => by simp only [SV.rn, tn, List.mem_singleton] at *; rw [h, hπ]
 | .fn f cap, h => by simp only [SV.rn, tn] at *; exact Hn hπ h
 | .pv _, h => by simp [SV.rn, tn] at h
 | .vec _ _, h => by simp [SV.rn, tn] at h
 | .agg l, h => by simp only [SV.rn, tn] at *; exact Hn hπ h
 | .tup l, h => by simp only [SV.rn, tn] at *; exact Hn hπ h
 | .pi _ _ _ _, h => by simp [SV.rn, tn] at h
 | .dead, h => by simp [SV.rn, tn] at h
theorem Hn (hπ : ∀ n, π (π n) = n) {k : Nat} : ∀ {l : List SV}, k ∈ Ay (SV.rnL π l) → π k ∈ Ay l
 | [], h => by simp [SV.rnL, Ay] at h
 | x :: l, h => by
   simp only [SV.rnL, Ay, List.mem_append] at *;exact h.imp (Ani hπ) (Hn hπ)
end
theorem Ah8 (hπ : ∀ n, π (π n) = n) (F : Fr) (w : World) (ρ : Nat → Value) (s : FS) : vw F w (fun n => ρ (π n)) (s.rn π) = vw F w ρ s := by
 show Aj w _ = Aj w _;congr 1;funext b;refine propext (or_congr_left ⟨?_, ?_⟩)
 · rintro ⟨n, x, h1, h2⟩;obtain ⟨y, h3, _⟩ := Option.map_eq_some_iff.1 h1;exact ⟨π n, y, h3, h2⟩
 · rintro ⟨n, x, h1, h2⟩;exact ⟨π n, x.rn π, by simp only [FS.rn, hπ, h1]; rfl, by simpa only [hπ] using h2⟩
theorem FunOk.rn (hπ : ∀ n, π (π n) = n) {f : Nat} {args : List SV} {h : Nat → Option Blk} {d d' : Nat} {x : SV} {u : List HU} (hf : FunOk P f args h d x u) :
 FunOk P f (SV.rnL π args) (fun n => (h (π n)).map (Blk.rn π)) d' (x.rn π) (u.map (HU.rn π)) := by
 refine ⟨hf.1, fun F N ρ s a w hR hh vs hc => ?_⟩;have hR' := hR.rn hπ;have hc' : ConcL (vw F w (fun n => ρ (π n)) (s.rn π)) (fun n => ρ (π n)) args vs := by
  rw [Ah8 hπ];have := hc.rn hπ
  rwa [Ge hπ] at this
 refine Calls.mono (hf.2 F N _ _ a w hR' (fun n hn => ?_) vs hc') fun e w' he => ?_
 · have hm : π n ∈ Ay (SV.rnL π args) := by
    have := Hn hπ (k := π n) (l := SV.rnL π args);rw [Ge hπ, hπ] at this;refine Classical.byContradiction fun hno => ?_;have key : ∀ (l : List SV) (k : Nat), k ∈ Ay l → π k ∈ Ay (SV.rnL π l) := fun l k hk => by
     have := Hn hπ (k := π (π k)) (l := SV.rnL π l);rw [Ge hπ, hπ] at this;exact this hk
    exact hno (key args n hn)
   have := hh (π n) hm;simp only [FS.rn];rw [this];simp only [hπ];cases h n with
   | none => rfl
   | some b => simp only [Option.map_some, Ww hπ]
 · obtain ⟨v, ρ', rfl, h1, h2⟩ := he;have h1' := h1.rn hπ;have e : ((s.rn π).hup u).rn π = s.hup (u.map (HU.rn π)) := by
    rw [Lc hπ];congr 1;refine FS.ext' (fun k => Aap hπ _) (fun k => ?_);simp only [FS.rn, hπ, Option.map_map];cases s.h k with
    | none => rfl
    | some b => simp only [Option.map_some, Function.comp, Ww hπ]
   rw [e] at h1';refine ⟨v, _, rfl, h1', ?_⟩;have h2' := h2.rn hπ;have ev := Ah8 hπ F w' ρ' ((s.rn π).hup u);rw [e] at ev;rw [ev];exact h2'
theorem FunOk.at {f : Nat} {args : List SV} {h h' : Nat → Option Blk} {d : Nat} {x : SV} {u : List HU} (hf : FunOk P f args h d x u) (hh : ∀ n ∈ Ay args, h' n = h n) : FunOk P f args h' d x u :=
 ⟨hf.1, fun F N ρ s a w hR hs vs hc => hf.2 F N ρ s a w hR (fun n hn => (hs n hn).trans (hh n hn)) vs hc⟩
def sw1 (a m : Nat) (k : Nat) : Nat := if k = a then m else if k = m then a else k
theorem Vt (a m : Nat) (k : Nat) : sw1 a m (sw1 a m k) = k := by unfold sw1; split <;> (try split) <;> (try split) <;> omega
def Z3 (a m b n : Nat) (k : Nat) : Nat := if k = a then m else if k = m then a else if k = b then n else if k = n then b else k
theorem Afb {a m b n : Nat} (h1 : a ≠ b) (h2 : a ≠ n) (h3 : m ≠ b) (h4 : m ≠ n) (k : Nat) : Z3 a m b n (Z3 a m b n k) = k := by unfold Z3; repeat' split <;> (try omega)
end Go.Proofs.YthleeikkpjiicaaDoor.Fw
namespace Go.Proofs.YthleeikkpjiicaaDoor.Fw
open Go.RowKit
abbrev iM (d n : Nat) : I := ⟨.mv, [.t n], some d, none⟩
abbrev iJ (k : Kd) (x : List Opd) (d : Nat) : I := ⟨k, x, some d, none⟩
abbrev iO (k : Kd) (x : List Opd) : I := ⟨k, x, none, none⟩
abbrev iG (k : Kd) (x : List Opd) (d g : Nat) (w : Bool) : I := ⟨k, x, some d, some (g, w)⟩
abbrev cI (n : Int) : Opd := .c (.pv (.i .i64 n))
section
variable (E : Env)
def Oh (D ps : List Nat) (c j : Nat) (d : Option Nat) (T : List Nat) (acc : List (Nat × List Nat)) (l : List (I × Nat × List Nat × List Nat × Nat)) (Q : Bd) (s : FS) : KK :=
 fun x u => Zo D c (d.getD 1000000000) x u T ∧ Qi acc ps T ∧ Z0 E l (Tq c j T acc) Q (s.apply d x u)
def gdP (D ps : List Nat) (c j : Nat) (k : Kd) (x : List Opd) (d : Nat) (T : List Nat) (acc : List (Nat × List Nat)) (l : List (I × Nat × List Nat × List Nat × Nat)) (Q : Bd) (s : FS) : Prop := body E k x d s (Oh E D ps c j (some d) T acc l Q s)
def skP (D ps : List Nat) (c j : Nat) (d : Nat) (T : List Nat) (acc : List (Nat × List Nat)) (l : List (I × Nat × List Nat × List Nat × Nat)) (Q : Bd) (s : FS) : Prop := Oh E D ps c j (some d) T acc l Q s (.tup []) []
theorem Ae6 (D l Q s) : sx E (.anyP D l) Q s = Ad1 E.reg D l Q s := (rfl)
theorem Adc (D ps c j d T acc l Q s x u) : Oh E D ps c j d T acc l Q s x u = (Zo D c (d.getD 1000000000) x u T ∧ Qi acc ps T ∧ Z0 E l (Tq c j T acc) Q (s.apply d x u)) := (rfl)
theorem Ae8 (acc Q s) : Z0 E [] acc Q s = Q .normal s := (rfl)
theorem Zz (k x d c D ps j l acc Q s) : Z0 E ((⟨k, x, some d, none⟩, c, D, ps, j) :: l) acc Q s = body E k x d s (Oh E D ps c j (some d) (d :: Fg (A2 s x)) acc l Q s) := (rfl)
theorem W7 (k x c D ps j l acc Q s) : Z0 E ((⟨k, x, none, none⟩, c, D, ps, j) :: l) acc Q s = body E k x 0 s (Oh E D ps c j none (Fg (A2 s x)) acc l Q s) := (rfl)
theorem Kh (D ps c j k x d T acc l Q s) : gdP E D ps c j k x d T acc l Q s = body E k x d s (Oh E D ps c j (some d) T acc l Q s) := (rfl)
theorem Kg (D ps c j d T acc l Q s) : skP E D ps c j d T acc l Q s = Oh E D ps c j (some d) T acc l Q s (.tup []) [] := (rfl)
variable {E}
theorem Ad0 {D l Q s} (h : Z0 E l [] Q (killD D s)) : Ad1 E D l Q s := ⟨s, .refl s, h⟩
end
theorem An1 (D d x u T) : Zo D 0 d x u T = (Ue d x D ∧ u = []) := (rfl)
theorem An0 (D d x u T) : Zo D 1 d x u T = (Ue d x D ∧ D0 D d u) := (rfl)
theorem Anz (D d x u T) : Zo D 2 d x u T = (Ue d x D ∧ Bx D d u ∧ Dw T u) := (rfl)
theorem Tx (T) : Dw T [] = True := (rfl)
theorem Tw (T n b u) : Dw T (.upd n b :: u) = (inT n T ∧ Dw T u) := (rfl)
theorem Ab4 (n m T) : inT n (m :: T) = if n = m then True else inT n T := (rfl)
theorem Aay (n) : Se n [] = True := (rfl)
theorem Xr (n m T) : Se n (m :: T) = if n = m then False else Se n T := (rfl)
theorem Yz (T) : Lv [] T = True := (rfl)
theorem Ux (n S T) : Lv (n :: S) T = (Se n T ∧ Lv S T) := (rfl)
theorem Aak (acc T) : Qi acc [] T = True := (rfl)
theorem Xl (acc k ps T) : Qi acc (k :: ps) T = (Lv (lk [] k acc) T ∧ Qi acc ps T) := (rfl)
theorem Amz (k T acc) : Tq 0 k T acc = acc := (rfl)
theorem Amy (k T acc) : Tq 1 k T acc = (k, T) :: acc := (rfl)
theorem Amx (k T acc) : Tq 2 k T acc = (k, T) :: acc := (rfl)
theorem W6 : Fg [] = [] := (rfl)
theorem Tz (x l) : Fg (x :: l) = tnP x ++ Fg l := (rfl)
theorem Ank (n o) : tnP (.p n o) = [n] := (rfl)
theorem Aey (n x) : tnP (.vec n x) = [] := (rfl)
attribute [go_sem] Ae6 Adc Ae8 Zz W7 An1 An0 Anz Tx Tw Ab4 Aay Xr Yz Ux Aak Xl Amz Amy Amx W6 Tz Ank Aey
abbrev iU (k : Kd) (n d : Nat) : I := ⟨k, [.t n], some d, none⟩
abbrev iD (k : Kd) (m n d : Nat) : I := ⟨k, [.t m, .t n], some d, none⟩
abbrev iV (k : Kd) (n d g : Nat) (w : Bool) : I := ⟨k, [.t n], some d, some (g, w)⟩
abbrev L1 : Kd := .ld 1 false
abbrev L2 : Kd := .ld 2 true
abbrev L8 : Kd := .ld 8 true
abbrev B1 : Kd := .bin .eql
abbrev B2 : Kd := .bin .add
abbrev B3 : Kd := .bin .lss
abbrev B4 : Kd := .bin .gtr
abbrev B5 : Kd := .bin .sub
abbrev B6 : Kd := .bin .neq
abbrev B7 : Kd := .bin .leq
abbrev B8 : Kd := .bin .geq
abbrev U1 : Kd := .un .not
abbrev S1 : Kd := .sto 1
abbrev zV : SV := .vec 8 (List.replicate 8 (.i .u32 0))
abbrev zW : SV := .vec 8 (List.replicate 8 (.i .i64 0))
abbrev zX : SV := .vec 8 (List.replicate 8 (.b false))
abbrev zN : SV := .pv (.sl true 0 [])
abbrev zI : SV := .pv (.i .i64 0)
abbrev zU : SV := .pv (.i .u32 0)
abbrev zF : SV := .pv (.b false)
abbrev zS : SV := .pv (.s [])
abbrev zT : SV := .pv (.b true)
abbrev jP (a b d : Nat) : I := ⟨.pick, [.t a, .c zT, .t b], some d, none⟩
abbrev jQ (a b d : Nat) : I := ⟨.pick, [.t a, .t b, .c zF], some d, none⟩
abbrev jC (n : Int) (d : Nat) : I := ⟨.mv, [cI n], some d, none⟩
abbrev jW (z a b : Nat) : I := ⟨.sto z, [.t a, .t b], none, none⟩
abbrev jF (o n d : Nat) : I := ⟨.fa o, [.t n], some d, none⟩
abbrev jK (k : Kd) (a : Nat) (n : Int) (d : Nat) : I := ⟨k, [.t a, cI n], some d, none⟩
abbrev jA (k : Kd) (n d g : Nat) : I := ⟨k, [.t n], some d, some (g, true)⟩
abbrev jB (k : Kd) (n d g : Nat) : I := ⟨k, [.t n], some d, some (g, false)⟩
abbrev jE (d : Nat) : I := ⟨.new (.agg [zI, zU, zV, zI, zI, zU, zI, zU, zS, zN, zN, zI, zS, zI]), [], some d, none⟩
abbrev jL (o n d g : Nat) : I := ⟨.fa o, [.t n], some d, some (g, true)⟩
abbrev jN (o n d g : Nat) : I := ⟨.fa o, [.t n], some d, some (g, false)⟩
abbrev jS (l : List I) (c : C) : C := .seq (.ops l) c
abbrev jI (n : Nat) (a : C) : C := .ite (.t n) a .skip
attribute [go_sem] L1 L2 L8 B1 B2 B3 B4 B5 B6 B7 B8 U1 S1 zV zW zX zN zI zU zF zS zT
end Go.Proofs.YthleeikkpjiicaaDoor.Fw
namespace Go.Proofs.YthleeikkpjiicaaDoor.Fw
open Go.RowKit
variable {P : Program} {F : Fr} {N : Nat} {ρ ρ' : Nat → Value} {s : FS} {a : Act} {w w' : World} {V V' : View}
def Blk.ptr (n : Nat) : Blk → SV
 | .var _ => .p n 0
 | .row _ _ => .os n
 | _ => .dead
def Blk.plain : Blk → Bool
 | .var x => x.closed
 | .row _ _ => true
 | _ => false
theorem Own.closed {n m : Nat} {blk : Blk} (hb : blk.plain = true) (hV : V.le V') (he : ρ n = ρ' m) (h : Own w V ρ' m blk) : Own w V' ρ n blk := by
 cases blk with
 | var x =>
   obtain ⟨b, vs, ty, fr, u, g1, g2, g3, g4, g5, g6, g7⟩ := h;exact ⟨b, vs, ty, fr, u, he.trans g1, g2, g3, Be hV hb g4, g5, g6, g7⟩
 | row sz es =>
   obtain ⟨base, cap, g1, g2, g3, g4, g5⟩ := h;refine ⟨base, cap, he.trans g1, g2, g3, g4, fun hc => ?_⟩;obtain ⟨b, vs, ty, fr, k1, k2, k3, k4, k5, k6⟩ := g5 hc;exact ⟨b, vs, ty, fr, k1, k2, k3, k4, k5, fun i c hi => (k6 i c hi).mono hV⟩
 | rowc sz es c => cases hb
 | it l p => cases hb
theorem V9 {n : Nat} {blk : Blk} (hb : (blk.ptr n).kill n ≠ blk.ptr n) (h : Own w V ρ n blk) : Conc V ρ (blk.ptr n) (ρ n) := by
 cases blk with
 | var x =>
   obtain ⟨b, vs, ty, fr, u, g1, _⟩ := h;simp only [Blk.ptr, Conc];exact ⟨b, g1, g1⟩
 | row sz es =>
   obtain ⟨base, cap, g1, _⟩ := h;simp only [Blk.ptr, Conc];exact ⟨trivial, by rw [g1]; trivial⟩
 | rowc sz es c => simp only [Blk.ptr, SV.kill] at hb; exact absurd rfl hb
 | it l p => simp only [Blk.ptr, SV.kill] at hb; exact absurd rfl hb
theorem Aaw {n m : Nat} {b b' : Blk} {v : Value} (hp : b'.ptr m = b.ptr m) (hb : (b.ptr n).kill n ≠ b.ptr n) (h : Conc V ρ (b.ptr n) v) (h' : Conc V' ρ' (b'.ptr m) v) : ρ n = ρ' m := by
 rw [hp] at h';cases b with
 | var x =>
   simp only [Blk.ptr, Conc] at h h';obtain ⟨p, e1, e2⟩ := h;obtain ⟨q, e3, e4⟩ := h';rw [e1, e3, ← e2, ← e4]
 | row sz es =>
   simp only [Blk.ptr, Conc] at h h';rw [← h.1, ← h'.1]
 | rowc sz es c => simp only [Blk.ptr, SV.kill] at hb; exact absurd rfl hb
 | it l p => simp only [Blk.ptr, SV.kill] at hb; exact absurd rfl hb
theorem Hy (hm : P.follows .mixedOrders = true) {f N' : Nat} {rs : List Rv} {c : C} (hf : Bc P f = some (N', rs, c)) {args : List SV} {h : Nat → Option Blk} {d g : Nat} {blk blk' : Blk} {x : SV} (hlen : args.length ≤ N')
 (hts : ∀ n ∈ Ay args, n = g) (hgt : g ∈ Ay args) (hg : h g = some blk) (hx : x.closed = true) (hp : (blk.ptr g).kill g ≠ blk.ptr g) (hb' : blk'.plain = true) (hpp : ∀ m, blk'.ptr m = blk.ptr m)
 (hrun : ∀ F, sx (Zp P F N') c (Ael rs fun y s => y = x ∧ ∃ m, s.t 1000000 = blk'.ptr m ∧ s.h m = some blk') (mk (Cd 0 args ++ [(1000000, blk.ptr g)]) [(g, some blk)])) :
 FunOk P f args h d x [.upd g blk'] := by
 refine ⟨Bv hf, fun F N ρ s a w hR hh vs hc => ?_⟩;have hsg : s.h g = some blk := (hh g hgt).trans hg;have hvl : vs.length = args.length := by
  clear hrun hlen hts hh hgt
  induction args generalizing vs with
  | nil => simp only [ConcL] at hc; subst hc; rfl
  | cons x l ih =>
    simp only [ConcL] at hc;obtain ⟨v, us, rfl, _, h⟩ := hc;simp [ih _ h]
 let F' : Fr := ⟨w, Qx ρ s.h [g], F.out ρ (Aw s [g]).h, fun _ => ρ g, []⟩
 have hmine : ∀ b, Qx ρ s.h [g] b ↔ Bj (ρ g) = some b := fun b => by
  constructor
  · rintro ⟨n, hn, x, h1, h2⟩;simp only [List.mem_singleton] at hn; subst hn; exact h2
  · intro hb; exact ⟨g, List.mem_singleton.2 rfl, blk, hsg, hb⟩
 have hlk : ∀ n, lk none n [(g, some blk)] = if n = g then some blk else none := fun n => by simp only [lk]
 have how : ∀ b, Bb ρ (mk (Cd 0 args ++ [(1000000, blk.ptr g)]) [(g, some blk)]).h b ↔ Qx ρ s.h [g] b := fun b => by
  rw [hmine];constructor
  · rintro ⟨n, x, h1, h2⟩;simp only [mk, hlk] at h1;split at h1
    · rename_i e; subst e; exact h2
    · cases h1
  · intro hb; exact ⟨g, blk, by simp [mk, lk], hb⟩
 have hoth : ∀ b, Bb ρ (Aw s [g]).h b ↔ ∃ n, n ≠ g ∧ ∃ x, s.h n = some x ∧ Bj (ρ n) = some b := fun b => by
  constructor
  · rintro ⟨n, x, h1, h2⟩;simp only [Aw, List.mem_singleton] at h1; split at h1
    · cases h1
    · rename_i hn; exact ⟨n, hn, x, h1, h2⟩
  · rintro ⟨n, hn, x, h1, h2⟩;exact ⟨n, x, by simp only [Aw, List.mem_singleton, if_neg hn]; exact h1, h2⟩
 have hview : Aj w (F'.out ρ (mk (Cd 0 args ++ [(1000000, blk.ptr g)]) [(g, some blk)]).h) = vw F w ρ s := by
  show Aj w _ = Aj w _;congr 1;funext b;refine propext ⟨fun hb => ?_, fun hb => ?_⟩
  · rcases hb with hb | hb
    · obtain ⟨n, _, x, h1, h2⟩ := (how b).1 hb; exact .inl ⟨n, x, h1, h2⟩
    · rcases hb with hb | hb
      · obtain ⟨n, _, x, h1, h2⟩ := (hoth b).1 hb; exact .inl ⟨n, x, h1, h2⟩
      · exact .inr hb
  · rcases hb with ⟨n, x, h1, h2⟩ | hb
    · by_cases hn : n = g
      · subst hn; exact .inl ((how b).2 ((hmine b).2 h2))
      · exact .inr (.inl ((hoth b).2 ⟨n, hn, x, h1, h2⟩))
    · exact .inr (.inr hb)
 have hgl : ∀ (k : Nat) (l : List SV) (n : Nat) (t : List (Nat × SV)), (∀ i, k ≤ i → i < k + l.length → i ≠ n) → lk .dead n (Cd k l ++ t) = lk .dead n t := by
  intro k l
  induction l generalizing k with
  | nil => intro n t _; rfl
  | cons y l ih =>
    intro n t hn;simp only [Cd, List.cons_append, lk];rw [if_neg fun e => hn k (Nat.le_refl k) (by simp) e.symm];exact ih (k + 1) n t fun i h1 h2 => hn i (by omega) (by simp only [List.length_cons]; omega)
 have hap : ∀ (k : Nat) (l : List SV) (n : Nat) (t : List (Nat × SV)), k ≤ n → n < k + l.length → lk .dead n (Cd k l ++ t) = lk .dead n (Cd k l) := by
  intro k l
  induction l generalizing k with
  | nil => intro n t h1 h2; simp at h2; omega
  | cons y l ih =>
    intro n t h1 h2;simp only [Cd, List.cons_append, lk];split
    · rfl
    · exact ih (k + 1) n t (by omega) (by simp only [List.length_cons] at h2; omega)
 have hN := Mr hf;have hR0 : RelR F' N' ρ (mk (Cd 0 args ++ [(1000000, blk.ptr g)]) [(g, some blk)]) { tmps := (⟨vs⟩ : Array Value) ++ Array.replicate (N' - (⟨vs⟩ : Array Value).size) undef, defers := [] } w := by
  refine ⟨⟨rfl, rfl, rfl, Nat.le_refl _, fun _ _ _ => rfl, fun b hb => ⟨?_, fun hmi => ?_⟩, ⟨hR.tabW, fun p hp hmi => hR.tabN hp ⟨g, blk, hsg, (hmine p.1).1 hmi⟩⟩⟩, fun b hb => .inr ((how b).1 hb), fun n x hx => ?_, fun n m x y b hx hy hbx hby => ?_, fun n => ?_, by simp; omega, rfl⟩
  · rcases hb with hb | hb
    · obtain ⟨n, _, x, h1, h2⟩ := (hoth b).1 hb; exact (hR.own n x h1).lt h2
    · exact Nat.lt_of_lt_of_le (hR.fr.hid b hb).1 hR.fr.size
  · have hmb := (hmine b).1 hmi;rcases hb with hb | hb
    · obtain ⟨m, hm, y, g1, g2⟩ := (hoth b).1 hb;exact hm (hR.inj m g y blk b g1 hsg g2 hmb)
    · exact hR.shown ⟨g, blk, hsg, hmb⟩ hb
  · rw [hview];simp only [mk, hlk] at hx; split at hx
    · rename_i e; subst e; cases hx; exact hR.own _ _ hsg
    · cases hx
  · simp only [mk, hlk] at hx hy;split at hx
    · split at hy
      · rename_i e1 e2; rw [e1, e2]
      · cases hy
    · cases hx
  · rw [hview];simp only [mk];unfold Fr.val;by_cases hb : n < D4
    · rw [if_pos hb];have he : ((⟨vs⟩ : Array Value) ++ Array.replicate (N' - (⟨vs⟩ : Array Value).size) undef).getD n undef = (vs[n]?).getD undef := by
       rw [Array.getD_eq_getD_getElem?];by_cases hn : n < vs.length
       · rw [Array.getElem?_append_left (by simpa using hn)]; simp
       · rw [Array.getElem?_append_right (by simpa using hn)];rw [List.getElem?_eq_none (by omega)];simp only [Array.getElem?_replicate, Option.getD_none];split <;> rfl
      rw [he];have := Ed 0 n hc;simp only [Nat.zero_le, if_true, Nat.sub_zero] at this;by_cases hn : n < args.length
      · rw [hap 0 args n _ (Nat.zero_le n) (by omega)]; exact this
      · rw [hgl 0 args n _ fun i h1 h2 => by omega];have : n ≠ 1000000 := fun e => by rw [e] at hb; exact Nat.lt_irrefl _ hb
        simp only [lk, if_neg this, Conc]
    · rw [if_neg hb, hgl 0 args n _ fun i h1 h2 => by omega];simp only [lk];split
      · exact V9 hp (hR.own g blk hsg)
      · simp only [Conc]
 refine Calls.mono (I2 hm hf rfl hR0.fr (fun b hb => by
  obtain ⟨n, hn, x, h1, h2⟩ := hb;exact (hR.own n x h1).lt h2) hR0 Aaq (hrun F')) fun e w' he => ?_
 obtain ⟨v, ρ', s', a', y, rfl, hR', hy, hyx, m, ht, hm'⟩ := he;subst hyx;have hadr : ρ g = ρ' m := by
  have h1 := hR'.tmps 1000000;rw [ht] at h1;have e : F'.val a' 1000000 = ρ g := by
   unfold Fr.val;rw [if_neg (show ¬ (1000000 : Nat) < D4 from Nat.lt_irrefl _)]
  rw [e] at h1;exact Aaw (hpp m) hp (V9 hp (hR.own g blk hsg)) h1
 have hout2 : ∀ b, F.out ρ (s.hup [.upd g blk']).h b → F'.out ρ' s'.h b := fun b hb => by
  rcases hb with ⟨n, z, h1, h2⟩ | hb
  · by_cases hn : n = g
    · subst hn;exact .inl ⟨m, blk', hm', by rw [← hadr]; exact h2⟩
    · have h1' : s.h n = some z := by simpa [FS.hup, FS.seth, hn] using h1
      exact .inr (.inl ((hoth b).2 ⟨n, hn, z, h1', h2⟩))
  · exact .inr (.inr hb)
 have hV2 : (Aj w' (F'.out ρ' s'.h)).le (Aj w' (F.out ρ (s.hup [.upd g blk']).h)) := A8 fun b c ho hc => ⟨fun hb => ho (hout2 b hb), hc⟩
 have hout1 : ∀ b, F.out ρ (s.hup [.upd g blk']).h b ↔ F.out ρ s.h b := fun b => by
  refine or_congr_left ⟨?_, ?_⟩
  · rintro ⟨n, z, h1, h2⟩;by_cases hn : n = g
    · subst hn; exact ⟨n, blk, hsg, h2⟩
    · exact ⟨n, z, by simpa [FS.hup, FS.seth, hn] using h1, h2⟩
  · rintro ⟨n, z, h1, h2⟩;by_cases hn : n = g
    · subst hn; exact ⟨n, blk', by simp [FS.hup, FS.seth], h2⟩
    · exact ⟨n, z, by simpa [FS.hup, FS.seth, hn] using h1, h2⟩
 have hkeep : ∀ b, b < w.heap.size → Bj (ρ g) ≠ some b → w'.heap[b]? = w.heap[b]? := fun b hb hn => hR'.fr.block b hb fun hmi => hn ((hmine b).1 hmi);have hV1 : (vw F w ρ s).le (Aj w' (F.out ρ (s.hup [.upd g blk']).h)) := A8 fun b c ho hc => by
  refine ⟨fun hb => ho ((hout1 b).1 hb), ?_⟩;have hlt : b < w.heap.size := by
   unfold Bn at hc;cases hx : w.heap[b]? with
   | none => rw [hx] at hc; cases hc
   | some o => exact (Array.getElem?_eq_some_iff.1 hx).1
  rw [Bi (hkeep b hlt fun e => ho (.inl ⟨g, blk, hsg, e⟩))];exact hc
 refine ⟨v, ρ, rfl, ⟨⟨hR'.fr.os.trans hR.fr.os, hR'.fr.tape.trans hR.fr.tape, hR'.fr.output.trans hR.fr.output, Nat.le_trans hR.fr.size hR'.fr.size, fun b hlt hM => ?_, hR.fr.hid, hR.fr.tab⟩, fun b hb => ?_, fun n z hz => ?_, fun n k z z' b hn hk hbn hbk => ?_, fun n => (hR.tmps n).mono hV1, hR.size, hR.defers⟩, Be hV2 hx hy⟩
 · rw [hkeep b (Nat.lt_of_lt_of_le hlt hR.fr.size) fun e => ?_]
   · exact hR.fr.block b hlt hM
   · rcases hR.may b ⟨g, blk, hsg, e⟩ with h1 | h1
     · omega
     · exact hM h1
 · obtain ⟨n, z, h1, h2⟩ := hb;by_cases hn : n = g
   · subst hn; exact hR.may b ⟨n, blk, hsg, h2⟩
   · exact hR.may b ⟨n, z, by simpa [FS.hup, FS.seth, hn] using h1, h2⟩
 · by_cases hn : n = g
   · subst hn;have e : z = blk' := by simpa [FS.hup, FS.seth] using hz.symm
     subst e;exact Own.closed hb' hV2 hadr (hR'.own m _ hm')
   · have h1 : s.h n = some z := by simpa [FS.hup, FS.seth, hn] using hz
     refine (hR.own n z h1).congr hV1 fun b hb => hkeep b ((hR.own n z h1).lt hb) fun e => hn (hR.inj n g z blk b h1 hsg hb e)
 · have f : ∀ (q : Nat) (y : Blk), (s.hup [.upd g blk']).h q = some y → ∃ y', s.h q = some y' := fun q y hq => by
    by_cases e : q = g
    · subst e; exact ⟨blk, hsg⟩
    · exact ⟨y, by simpa [FS.hup, FS.seth, e] using hq⟩
   obtain ⟨z1, e1⟩ := f n z hn;obtain ⟨z2, e2⟩ := f k z' hk;exact hR.inj n k z1 z2 b e1 e2 hbn hbk
end Go.Proofs.YthleeikkpjiicaaDoor.Fw
namespace Go.Proofs.YthleeikkpjiicaaDoor.Fw
open Go.RowKit
variable {P : Program}
end Go.Proofs.YthleeikkpjiicaaDoor.Fw
namespace Go.Proofs.YthleeikkpjiicaaDoor.Fw
open Go.RowKit
variable {P : Program} {F : Fr} {N : Nat} {ρ ρ' : Nat → Value} {s : FS} {a : Act} {w w' : World} {V V' : View}
end Go.Proofs.YthleeikkpjiicaaDoor.Fw
