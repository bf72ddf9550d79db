/- Loops, calls and loops over functions of the small language do in the model what their meaning tells. -/
import Derived.Test.YtdikcfjpcgapaaaFwC
set_option linter.unusedVariables false
set_option linter.unusedSimpArgs false
set_option linter.unusedSectionVars false
namespace Go.Proofs.Ytdikcfjpcgapaaa.Fw
open Go.RowKit
variable {P : Program} {F : Fr} {N : Nat} {ρ ρ' : Nat → Value} {s : FS} {a : Act} {w w' : World} {V V' : View}
def D0 : Nat → List SV → List (Nat × SV)
 | _, [] => []
 | k, x :: l => (k, x) :: D0 (k + 1) l
inductive Rv where
 | t (n : Nat)
 | c (a size : Nat) (ag : Bool)
def F5 (s : FS) : List Rv → (List SV → Prop) → Prop
 | [], K => K []
 | .t n :: rs, K => F5 s rs fun l => K (s.t n :: l)
 | .c a size ag :: rs, K => Dk s.h size ag (s.t a) fun x u => u = [] ∧ F5 s rs fun l => K (x :: l)
def one : List SV → SV
 | [x] => x
 | l => .tup l
def Aiu (rs : List Rv) (R : SV → FS → Prop) : A5
 | .normal, s => F5 s rs fun l => R (one l) s
 | .ret, s => F5 s rs fun l => R (one l) s
 | _, _ => False
def Oe (rs : List Rv) (R : SV → FS → Prop) (s : FS) : Prop := ∃ s', Wk s s' ∧ F5 s' rs fun l => R (one l) s'
def Af7 (rs : List Rv) (R : SV → FS → Prop) : A5
 | .normal, s => Oe rs R s
 | .ret, s => Oe rs R s
 | _, _ => False
def Vi (rs : List Rv) (R : SV → (Nat → Option Blk) → Prop) : A5 := Aiu rs fun y s => R y s.h
def Oc (P : Program) : ResultVar → Option Rv
 | .tmp t => if t < D2 then some (.t t) else none
 | .cell a t => match Ac P t, Cc P t with
   | some sz, some ag => if sz = 0 ∨ D2 ≤ a then none else some (.c a sz ag)
   | _, _ => none
def Ds (P : Program) (f : Nat) : Option (Nat × List Rv × C) := match P.funcs[f]? with
 | some fn => match fn.body, Af (fn.results.toList.map (Oc P)) with
   | some code, some rs => if fn.name = "runtime.NumGoroutine" ∨ D2 < fn.ntmps then none else (Aq P fn.ntmps code).map fun c => (fn.ntmps, rs, c)
   | _, _ => none
 | none => none
theorem Kx {f : Nat} {rs : List Rv} {c : C} (h : Ds P f = some (N, rs, c)) : ∃ fn code, P.funcs[f]? = some fn ∧ fn.name ≠ "runtime.NumGoroutine" ∧ fn.body = some code ∧ fn.ntmps = N ∧ Af (fn.results.toList.map (Oc P)) = some rs ∧ Aq P N code = some c := by
 unfold Ds at h;split at h
 · rename_i fn hf;split at h
   · rename_i code rs' hb hr;split at h
     · cases h
     · rename_i hn;obtain ⟨c', hc, e⟩ := Option.map_eq_some_iff.1 h;cases e;exact ⟨fn, code, hf, fun e => hn (.inl e), hb, rfl, hr, hc⟩
   · cases h
 · cases h
theorem Th {f : Nat} {rs : List Rv} {c : C} (h : Ds P f = some (N, rs, c)) : N ≤ D2 := by
 unfold Ds at h;split at h
 · split at h
   · split at h
     · cases h
     · rename_i hn;obtain ⟨c', hc, e⟩ := Option.map_eq_some_iff.1 h;cases e;exact Nat.le_of_not_lt fun e => hn (.inr e)
   · cases h
 · cases h
theorem U3 {t : TypeId} {x v : Value} (h : (Instr.loadAt t x).run P w = .ok v w) : (do loadVar t (← asAddr x) : Sem Value).run P w = .ok v w := by
 unfold Instr.loadAt at h;cases x <;> first | exact h | skip
 all_goals first | (rename_i o; cases o <;> first | exact h | (cases h)) | (cases h)
theorem S3 (tmps : Array Value) (g : ResultVar → Sem Value) (hg : ∀ t, g (.tmp t) = pure (tmps.getD t undef)) (hg' : ∀ a t v, (Instr.loadAt t (tmps.getD a undef)).run P w = .ok v w → (g (.cell a t)).run P w = .ok v w) (hR : RelR F N ρ s a w) (ht : a.tmps = tmps) :
 ∀ (vars : List ResultVar) (rs : List Rv) (K : List SV → Prop) (acc : Array Value), Af (vars.map (Oc P)) = some rs → F5 s rs K →
  ∃ l vs, K l ∧ ConcL (vw F w ρ s) ρ l vs ∧ (List.foldlM (fun (bs : Array Value) r => bs.push <$> g r) acc vars).run P w = .ok (acc ++ (⟨vs⟩ : Array Value)) w
 | [], rs, K, acc, h, hk => by
   simp only [List.map_nil, Af, Option.some.injEq] at h;subst h;exact ⟨[], [], hk, by simp only [ConcL], by simp⟩
 | x :: vars, rs, K, acc, h, hk => by
   obtain ⟨r, rs', rfl, h1, h2⟩ := Am (show Af (Oc P x :: vars.map (Oc P)) = some rs from h);have key : ∀ (v : Value) (y : SV), (g x).run P w = .ok v w → Conc (vw F w ρ s) ρ y v → (F5 s rs' fun l => K (y :: l)) →
    ∃ l vs, K l ∧ ConcL (vw F w ρ s) ρ l vs ∧ (List.foldlM (fun (bs : Array Value) r => bs.push <$> g r) acc (x :: vars)).run P w = .ok (acc ++ (⟨vs⟩ : Array Value)) w := fun v y hv hy hk' => by
    obtain ⟨l, vs, k1, k2, k3⟩ := S3 tmps g hg hg' hR ht vars rs' _ (acc.push v) h2 hk';refine ⟨y :: l, v :: vs, k1, by simp only [ConcL]; exact ⟨v, vs, rfl, hy, k2⟩, ?_⟩;rw [List.foldlM_cons];have : (acc.push <$> g x : Sem (Array Value)).run P w = .ok (acc.push v) w := by
     rw [← bind_pure_comp];rw [Aa hv]; rfl
    rw [Aa this, k3];congr 1;exact Array.toList_inj.1 (by simp)
   cases x with
   | tmp t =>
     simp only [Oc] at h1;split at h1
     · rename_i hb;simp only [Option.some.injEq] at h1;subst h1;simp only [F5] at hk;refine key (tmps.getD t undef) (s.t t) (by rw [hg]; rfl) ?_ hk;rw [← ht]; exact hR.tm t hb
     · cases h1
   | cell b t =>
     simp only [Oc] at h1;split at h1
     · rename_i sz ag hsz hag;split at h1
       · cases h1
       · rename_i hne;simp only [Option.some.injEq] at h1;subst h1;simp only [F5] at hk;obtain ⟨v, y, g1, g2, g3⟩ := Acv (P := P) hR (hR.tm b (by omega)) (by omega) hsz hag hk;exact key v y (hg' b t v (by rw [← ht]; exact g1)) g3 g2.2
     · cases h1
theorem J4 {fn : Func} {rs : List Rv} (hR : RelR F N ρ s a w) (h : Af (fn.results.toList.map (Oc P)) = some rs) {K : List SV → Prop} (hk : F5 s rs K) :
 ∃ l v, K l ∧ Conc (vw F w ρ s) ρ (one l) v ∧ (results fn a.tmps).run P w = .ok v w := by
 unfold results;rw [Array.mapM_eq_foldlM];rw [← Array.foldlM_toList];obtain ⟨l, vs, h1, h2, h3⟩ := S3 (P := P) a.tmps (fun x => match x with
  | .tmp t => pure (a.tmps.getD t undef)
  | .cell b t => do loadVar t (← asAddr (a.tmps.getD b undef))) (fun _ => rfl) (fun b t v hv => U3 hv) hR rfl fn.results.toList rs K #[] h hk
 refine ⟨l, _, h1, ?_, (Aa h3).trans rfl⟩;cases l with
 | nil => simp only [ConcL] at h2; subst h2; simp only [one, Conc]; exact ⟨[], rfl, by simp only [ConcL]⟩
 | cons x l =>
   simp only [ConcL] at h2;obtain ⟨v, us, rfl, h4, h5⟩ := h2;cases l with
   | nil => simp only [ConcL] at h5; subst h5; simpa [one] using h4
   | cons y l =>
     have h5' := h5;simp only [ConcL] at h5;obtain ⟨v', us', rfl, h6, h7⟩ := h5;simp only [one, Conc];refine ⟨v :: v' :: us', ?_, by simp only [ConcL]; exact ⟨v, _, rfl, h4, v', us', rfl, h6, h7⟩⟩;simp
theorem G7 : ∀ {args : List SV} {vs : List Value} (k : Nat) (n : Nat), ConcL V ρ args vs → Conc V ρ (lk .dead n (D0 k args)) (if k ≤ n then (vs[n - k]?).getD undef else undef)
 | [], vs, k, n, h => by simp [D0, lk, Conc]
 | x :: l, vs, k, n, h => by
   simp only [ConcL] at h;obtain ⟨v, us, rfl, h1, h2⟩ := h;simp only [D0, lk];split
   · rename_i e; subst e; simp; exact h1
   · rename_i e;have := G7 (k + 1) n h2;by_cases hk : k ≤ n
     · have hk' : k + 1 ≤ n := by omega
       rw [if_pos hk'] at this;rw [if_pos hk];have : n - k = (n - (k + 1)) + 1 := by omega
       rw [this]; simpa using G7 (k + 1) n h2 |> fun q => by rw [if_pos hk'] at q; exact q
     · rw [if_neg (by omega)] at this;rw [if_neg hk]; exact this
theorem RelR.obj (h : RelR F N ρ s a w) {l : Nat} {o : Obj} (o' : Obj) (hl : w.heap[l]? = some o) (ho : o.isCells = false) (hlt : l < F.w0.heap.size) (hM : ¬ F.M0 l) : RelR { F with w0 := F.w0.putObj l o' } N ρ s a (w.putObj l o') := by
 have hlw : l < w.heap.size := (Array.getElem?_eq_some_iff.1 hl).1;have hne : ∀ b, Ar ρ s.h b → b ≠ l := fun b hb e => by
  subst e;rcases h.may b hb with h1 | h1
  · omega
  · exact hM h1
 have hV : (Ak w (F.out ρ s.h)).le (Ak (w.putObj l o') (F.out ρ s.h)) := A6 fun b c ho' hc => by
  refine ⟨ho', ?_⟩;have : b ≠ l := fun e => by
   subst e;unfold A3 at hc;rw [hl] at hc;cases o <;> simp_all [Obj.isCells]
  rw [Be (World.putObj_heap_other this)]; exact hc
 refine ⟨⟨h.fr.os, h.fr.tape, h.fr.output, by simpa using h.fr.size, fun b hb hm => ?_, fun b hb => by simpa using h.fr.hid b hb, ⟨fun p hp => ?_, h.fr.tab.2⟩⟩, fun b hb => by simpa using h.may b hb, fun n x hx => ?_, h.inj, fun n => (h.tmps n).mono hV, h.size, h.defers⟩
 · by_cases e : b = l
   · subst e;rw [World.putObj_heap_same hlw, World.putObj_heap_same hlt]
   · rw [World.putObj_heap_other e, World.putObj_heap_other e];exact h.fr.block b (by simpa using hb) hm
 · have h1 := h.fr.tab.1 p hp;have : p.1 ≠ l := fun e => by
    rw [e] at h1;unfold A3 at h1;rw [← h.fr.block l hlt hM, hl] at h1;cases o <;> simp_all [Obj.isCells]
   show A3 (F.w0.putObj l o') p.1 = _;rw [Be (World.putObj_heap_other this)]; exact h1
 · exact (h.own n x hx).congr hV fun b hb => World.putObj_heap_other (hne b ⟨n, x, hx, hb⟩)
theorem Desc.back {F0 : Fr} (hd : Desc F0 F) (h : RelR F N ρ s a w) (h0 : F0.defs = []) : RelR F0 N ρ s ⟨a.tmps, []⟩ w := by
 have ho : F.out ρ s.h = F0.out ρ s.h := by unfold Fr.out; rw [hd.hid]
 have hb := hd.base;refine ⟨⟨h.fr.os.trans hb.os, h.fr.tape.trans hb.tape, h.fr.output.trans hb.output, Nat.le_trans hb.size h.fr.size, fun b hlt hm => ?_, hb.hid, hb.tab⟩, fun b hbb => hd.may b (h.may b hbb), fun n x hx => by rw [← ho]; exact h.own n x hx, h.inj, fun n => ?_, h.size, h0.symm⟩
 · rw [h.fr.block b (Nat.lt_of_lt_of_le hlt hb.size) fun e => ?_]
   · exact hb.block b hlt hm
   · rcases hd.may b (.inr e) with h1 | h1
     · omega
     · exact hm h1
 · rw [← ho];have := h.tmps n;unfold Fr.val at this ⊢;rw [← hd.x]; exact this
theorem Desc.refl {F0 : Fr} (hR : F0.ok F0.w0) (hm : ∀ b, F0.M0 b → b < F0.w0.heap.size) (h0 : F0.defs = []) : Desc F0 F0 := ⟨hR, hm, fun _ h => h, rfl, rfl, by rw [h0]; trivial⟩
theorem P8 {fn : Func} {rs : List Rv} (h5 : Af (fn.results.toList.map (Oc P)) = some rs) {F0 : Fr} (h0 : F0.defs = []) {R : Ending → World → Prop} {tm : Array Value} {K : List SV → Prop} (hk : F5 s rs K)
 (hend : ∀ l v w, K l → RelR F0 N ρ s ⟨tm, []⟩ w → Conc (vw F0 w ρ s) ρ (one l) v → R (.returned v) w) :
 ∀ (ds : List Deferred) {F : Fr} {w : World}, Desc F0 { F with defs := [] } → Q5 F0 F ds → RelR { F with defs := [] } N ρ s ⟨tm, []⟩ w → LeavesInM (Gd none) 0 P fn tm R ds .returning w
 | [], F, w, hd, _, hR => by
   have hR' := hd.back hR h0;obtain ⟨l, v, k1, k2, k3⟩ := J4 (P := P) hR' h5 hk;exact ⟨v, k3, hend l v w k1 hR' k2⟩
 | d :: ds, F, w, hd, hm, hR => by
   obtain ⟨⟨D, rfl, g1, g2, g3, g4, g5⟩, hm⟩ := hm;have hw : w.heap[D]? = some (.deferred (some [])) := (hR.fr.block D g2 g3).trans g4;refine ⟨by simp, .inl ⟨D, _, rfl, run_takeDeferred hw, ?_⟩⟩;have hR2 := hR.obj (.deferred none) hw rfl g2 g3;refine P8 h5 h0 hk hend ds (F := { F with w0 := F.w0.putObj D (.deferred none) }) ⟨?_, fun b hb => by simpa using hd.m0 b hb, fun b hb => hd.may b (by simpa using hb), hd.hid, hd.x, trivial⟩ ?_ hR2
   · have hb := hd.base;refine ⟨hb.os, hb.tape, hb.output, by simpa using hb.size, fun b hlt hm => ?_, hb.hid, hb.tab⟩;show (F.w0.putObj D (.deferred none)).heap[b]? = _;rw [World.putObj_heap_other (by omega)];exact hb.block b hlt hm
   · clear hR hR2 hw
     induction ds with
     | nil => trivial
     | cons e ds ih =>
       obtain ⟨⟨E, rfl, k1, k2, k3, k4, k5⟩, hm⟩ := hm;have hne : E ≠ D := fun h => g5 _ List.mem_cons_self (by rw [h]);exact ⟨⟨E, rfl, k1, by simpa using k2, k3, by rw [World.putObj_heap_other hne]; exact k4, k5⟩, ih hm (fun e he => g5 e (List.mem_cons_of_mem _ he))⟩
theorem Sb (hm : P.follows .mixedOrders = true) {f N' : Nat} {rs : List Rv} {c : C} (hf : Ds P f = some (N', rs, c)) {F0 : Fr} {s0 : FS} {vs : List Value} (h0 : F0.defs = []) (hok : F0.ok F0.w0) (hm0 : ∀ b, F0.M0 b → b < F0.w0.heap.size)
 (hR : RelR F0 N' ρ s0 { tmps := (⟨vs⟩ : Array Value) ++ Array.replicate (N' - (⟨vs⟩ : Array Value).size) undef, defers := [] } w) {R : SV → FS → Prop} {Q : A5} (hQ : ∀ e s, Q e s → (e = .normal ∨ e = .ret) ∧ Oe rs R s) (hrun : sx (env P F0 N') c Q s0) :
 Calls P f ⟨vs⟩ w fun e w' => ∃ v ρ' s' a' y, e = .returned v ∧ RelR F0 N' ρ' s' a' w' ∧ Conc (vw F0 w' ρ' s') ρ' y v ∧ R y s' := by
 obtain ⟨fn, code, h1, h2, h3, h4, h5, h6⟩ := Kx hf;subst h4;refine callsIn_wide.1 (callsIn_of_wp_marks (F := Gd none) (n := 0) h1 h3 trivial (wpIn_mono (Ga hm h6 hrun ⟨F0, Desc.refl hok hm0 h0, ρ, hR⟩) fun e a' w' he => ?_));have fin : (∃ s, RelX (Desc F0) fn.ntmps s a' w' ∧ Oe rs R s) → LeavesInM (Gd none) 0 P fn a'.tmps (fun e w' => ∃ v ρ' s' a' y, e = .returned v ∧ RelR F0 fn.ntmps ρ' s' a' w' ∧ Conc (vw F0 w' ρ' s') ρ' y v ∧ R y s') a'.defers .returning w' := fun ⟨s1, hX, s', hwk, hr⟩ => by
  obtain ⟨F, hd, ρ', hR'⟩ := hX.wk hwk;rw [hR'.defers];refine P8 h5 h0 hr (fun l v w k1 k2 k3 => ⟨v, ρ', s', _, _, rfl, k2, k3, k1⟩) F.defs (F := F) ⟨hd.base, hd.m0, hd.may, hd.hid, hd.x, trivial⟩ hd.marks ?_;exact ⟨⟨hR'.fr.os, hR'.fr.tape, hR'.fr.output, hR'.fr.size, hR'.fr.block, hR'.fr.hid, hR'.fr.tab⟩, hR'.may, hR'.own, hR'.inj, hR'.tmps, hR'.size, rfl⟩
 cases e with
 | normal => obtain ⟨s, h, hq⟩ := he; exact fin ⟨s, h, (hQ _ _ hq).2⟩
 | ret => obtain ⟨s, h, hq⟩ := he; exact fin ⟨s, h, (hQ _ _ hq).2⟩
 | exit id =>
   obtain ⟨s, h, hq⟩ := he;rcases (hQ _ _ hq).1 with e | e <;> cases e
 | goto _ => exact he.elim
 | panic _ => exact he.elim
 | outgrown => exact he.elim
theorem Wk.same (s : FS) : Wk s s := .weak ⟨fun n => Imp.refl _, fun n b hb => by
 rw [hb];simp only [Uf];cases b with
 | var x => exact ⟨Imp.refl _, rfl⟩
 | row sz es => exact ⟨rfl, rfl⟩
 | rowc sz es c => exact ⟨rfl, rfl, rfl⟩
 | it l p => exact ⟨rfl, rfl⟩
 | nest es => rfl⟩
theorem Ln {rs : List Rv} {R : SV → FS → Prop} (e : Ex) (s : FS) (h : Aiu rs R e s) : (e = .normal ∨ e = .ret) ∧ Oe rs R s := by
 cases e with
 | normal => exact ⟨.inl rfl, s, .same s, h⟩
 | ret => exact ⟨.inr rfl, s, .same s, h⟩
 | exit _ => exact h.elim
theorem Adr {rs : List Rv} {R : SV → FS → Prop} (e : Ex) (s : FS) (h : Af7 rs R e s) : (e = .normal ∨ e = .ret) ∧ Oe rs R s := by
 cases e with
 | normal => exact ⟨.inl rfl, h⟩
 | ret => exact ⟨.inr rfl, h⟩
 | exit _ => exact h.elim
theorem Uz (hm : P.follows .mixedOrders = true) {f : Nat} {rs : List Rv} {c : C} (hf : Ds P f = some (N, rs, c)) {hid : Nat → Prop} (hhid : ∀ b, hid b → b < w.heap.size) (htw : Zd w) {args : List SV} {vs : List Value} (hlen : args.length ≤ N)
 (hc : ConcL (Ak w hid) ρ args vs) {R : SV → FS → Prop} {Q : A5} (hQ : ∀ e s, Q e s → (e = .normal ∨ e = .ret) ∧ Oe rs R s) (hrun : sx (env P ⟨w, fun _ => False, hid, fun _ => undef, []⟩ N) c Q (mk (D0 0 args) [])) :
 Calls P f ⟨vs⟩ w fun e w' => ∃ v ρ' s' a' y, e = .returned v ∧ RelR ⟨w, fun _ => False, hid, fun _ => undef, []⟩ N ρ' s' a' w' ∧ Conc (vw ⟨w, fun _ => False, hid, fun _ => undef, []⟩ w' ρ' s') ρ' y v ∧ R y s' := by
 obtain ⟨fn, code, h1, h2, h3, h4, h5, h6⟩ := Kx hf;subst h4;have hN := Th hf;have hvl : vs.length = args.length := by
  clear hrun hlen
  induction args generalizing vs with
  | nil => simp only [ConcL] at hc; subst hc; rfl
  | cons x l ih =>
    simp only [ConcL] at hc;obtain ⟨v, us, rfl, _, h⟩ := hc;simp [ih h]
 have hR : RelR ⟨w, fun _ => False, hid, fun _ => undef, []⟩ fn.ntmps ρ (mk (D0 0 args) []) { tmps := (⟨vs⟩ : Array Value) ++ Array.replicate (fn.ntmps - (⟨vs⟩ : Array Value).size) undef, defers := [] } w := by
  have how : ∀ b, ¬ Ar ρ (mk (D0 0 args) []).h b := fun b ⟨n, x, h, _⟩ => by simp [mk, lk] at h
  have hV : (Ak w hid).le (Ak w ((⟨w, fun _ => False, hid, fun _ => undef, []⟩ : Fr).out ρ (mk (D0 0 args) []).h)) :=
   A6 fun b c ho hc => ⟨fun hb => hb.elim (how b) ho, hc⟩
  refine ⟨⟨rfl, rfl, rfl, Nat.le_refl _, fun _ _ _ => rfl, fun b hb => ⟨hhid b hb, id⟩, ⟨htw, fun _ _ => id⟩⟩, fun b hb => absurd hb (how b), fun n x hx => by simp [mk, lk] at hx, fun n m x y b hx => by simp [mk, lk] at hx, fun n => ?_, by simp; omega, rfl⟩;have := (G7 0 n hc).mono hV;simp only [Nat.zero_le, if_true, Nat.sub_zero] at this;simp only [mk];have he : ((⟨vs⟩ : Array Value) ++ Array.replicate (fn.ntmps - (⟨vs⟩ : Array Value).size) undef).getD n undef = (vs[n]?).getD undef := by
   rw [Array.getD_eq_getD_getElem?];by_cases hn : n < vs.length
   · rw [Array.getElem?_append_left (by simpa using hn)]; simp
   · rw [Array.getElem?_append_right (by simpa using hn)];rw [List.getElem?_eq_none (by omega)];simp only [Array.getElem?_replicate, Option.getD_none];split <;> rfl
  unfold Fr.val;by_cases hb : n < D2
  · rw [if_pos hb, he]; exact this
  · rw [if_neg hb];rw [List.getElem?_eq_none (by omega)] at this; exact this
 exact Sb hm hf rfl (by exact ⟨rfl, rfl, rfl, Nat.le_refl _, fun _ _ _ => rfl, fun b hb => ⟨hhid b hb, id⟩, ⟨htw, fun _ _ => id⟩⟩) (fun b (h : False) => h.elim) hR hQ hrun
end Go.Proofs.Ytdikcfjpcgapaaa.Fw
namespace Go.Proofs.Ytdikcfjpcgapaaa.Fw
open Go.RowKit
variable {P : Program} {F : Fr} {N : Nat} {ρ ρ' : Nat → Value} {s : FS} {a : Act} {w w' : World} {V V' : View}
mutual
def SV.closed : SV → Bool
 | .pv _ => true
 | .vec _ _ => true
 | .agg l => SV.closedL l
 | .tup l => SV.closedL l
 | .pi _ _ _ _ => true
 | .fn _ l => SV.closedL l
 | .dead => true
 | _ => false
def SV.closedL : List SV → Bool
 | [] => true
 | x :: l => x.closed && SV.closedL l
end
mutual
theorem A8 (hV : V.le V') : ∀ {x : SV} {v : Value}, x.closed = true → Conc V ρ x v → Conc V' ρ' x v
 | .pv x, v, _, h => by simp only [Conc] at *; exact h.mono hV
 | .vec n cs, v, _, h => by simp only [Conc] at *; obtain ⟨vs, a, b, c⟩ := h; exact ⟨vs, a, b, c.mono hV⟩
 | .agg l, v, hc, h => by simp only [Conc, SV.closed] at *; obtain ⟨vs, a, b⟩ := h; exact ⟨vs, a, Ix hV hc b⟩
 | .tup l, v, hc, h => by simp only [Conc, SV.closed] at *; obtain ⟨vs, a, b⟩ := h; exact ⟨vs, a, Dx hV hc b⟩
 | .pi sz es i off, v, _, h => by
   have := Conc.mono (ρ := ρ) hV h;simp only [Conc] at *; exact this
 | .fn f l, v, hc, h => by simp only [Conc, SV.closed] at *; obtain ⟨vs, a, b⟩ := h; exact ⟨vs, a, Dx hV hc b⟩
 | .dead, v, _, h => by simp only [Conc]
 | .p _ _, v, hc, h => by simp [SV.closed] at hc
 | .ps _ _, v, hc, h => by simp [SV.closed] at hc
 | .pr _ _ _ _, v, hc, h => by simp [SV.closed] at hc
 | .os _, v, hc, h => by simp [SV.closed] at hc
 | .nt _ _, v, hc, h => by simp [SV.closed] at hc
 | .np _ _ _, v, hc, h => by simp [SV.closed] at hc
 | .ov _ _ _ _, v, hc, h => by simp [SV.closed] at hc
theorem Dx (hV : V.le V') : ∀ {l : List SV} {vs : List Value}, SV.closedL l = true → ConcL V ρ l vs → ConcL V' ρ' l vs
 | [], vs, _, h => by simp only [ConcL] at *; exact h
 | x :: l, vs, hc, h => by
   simp only [ConcL, SV.closedL, Bool.and_eq_true] at *;obtain ⟨u, us, a, b, c⟩ := h;exact ⟨u, us, a, A8 hV hc.1 b, Dx hV hc.2 c⟩
theorem Ix (hV : V.le V') : ∀ {l : List SV} {vs : List Value}, SV.closedL l = true → Cells V ρ l vs → Cells V' ρ' l vs
 | [], vs, _, h => by simp only [Cells] at *; exact h
 | x :: l, vs, hc, h => by
   simp only [Cells, SV.closedL, Bool.and_eq_true] at *;obtain ⟨u, us, a, b, c, d, e⟩ := h;exact ⟨u, us, a, A8 hV hc.1 b, c, d, Ix hV hc.2 e⟩
end
def PV.flat : PV → Bool
 | .sl _ _ es => es.isEmpty
 | _ => true
mutual
def SV.scalar : SV → Bool
 | .pv x => x.flat
 | .vec _ cs => cs.all PV.flat
 | .agg l => SV.scalarL l
 | .tup l => SV.scalarL l
 | _ => false
def SV.scalarL : List SV → Bool
 | [] => true
 | x :: l => x.scalar && SV.scalarL l
end
theorem Nq {x : PV} {v : Value} (hf : x.flat = true) (h : PConc V x v) : PConc V' x v := by
 cases h with
 | i k n => exact .i k n
 | b x => exact .b x
 | s l => exact .s l
 | v _ h => exact .v _ h
 | sl full sz es a cap cs bl off arr hcap hfull hsz ha hcs hel =>
   have he : es = [] := by cases es <;> simp_all [PV.flat]
   subst he;exact .sl full sz [] a cap cs bl off arr hcap hfull hsz (fun h => absurd rfl h) hcs (fun i j c x h => by simp at h)
theorem Hv {cs : List PV} {vs : List Value} (hf : cs.all PV.flat = true) (h : PCells V cs vs) : PCells V' cs vs :=
 ⟨h.1, fun j x hx => by
  obtain ⟨v, h1, h2⟩ := h.2 j x hx;exact ⟨v, h1, Nq (List.all_eq_true.1 hf x (List.mem_of_getElem? hx)) h2⟩⟩
mutual
theorem Cp : ∀ {x : SV} {v : Value}, x.scalar = true → Conc V ρ x v → Conc V' ρ' x v
 | .pv x, v, hc, h => by
   simp only [Conc, SV.scalar] at hc h ⊢;exact Nq hc h
 | .vec n cs, v, hc, h => by
   simp only [Conc, SV.scalar] at hc h ⊢;obtain ⟨vs, a, b, c⟩ := h;exact ⟨vs, a, b, Hv hc c⟩
 | .agg l, v, hc, h => by simp only [Conc, SV.scalar] at *; obtain ⟨vs, a, b⟩ := h; exact ⟨vs, a, H8 hc b⟩
 | .tup l, v, hc, h => by simp only [Conc, SV.scalar] at *; obtain ⟨vs, a, b⟩ := h; exact ⟨vs, a, H7 hc b⟩
 | .pi _ _ _ _, v, hc, h => by simp [SV.scalar] at hc
 | .fn _ _, v, hc, h => by simp [SV.scalar] at hc
 | .dead, v, hc, h => by simp [SV.scalar] at hc
 | .p _ _, v, hc, h => by simp [SV.scalar] at hc
 | .ps _ _, v, hc, h => by simp [SV.scalar] at hc
 | .pr _ _ _ _, v, hc, h => by simp [SV.scalar] at hc
 | .os _, v, hc, h => by simp [SV.scalar] at hc
 | .nt _ _, v, hc, h => by simp [SV.scalar] at hc
 | .np _ _ _, v, hc, h => by simp [SV.scalar] at hc
 | .ov _ _ _ _, v, hc, h => by simp [SV.scalar] at hc
theorem H7 : ∀ {l : List SV} {vs : List Value}, SV.scalarL l = true → ConcL V ρ l vs → ConcL V' ρ' l vs
 | [], vs, _, h => by simp only [ConcL] at *; exact h
 | x :: l, vs, hc, h => by
   simp only [ConcL, SV.scalarL, Bool.and_eq_true] at *;obtain ⟨u, us, a, b, c⟩ := h;exact ⟨u, us, a, Cp hc.1 b, H7 hc.2 c⟩
theorem H8 : ∀ {l : List SV} {vs : List Value}, SV.scalarL l = true → Cells V ρ l vs → Cells V' ρ' l vs
 | [], vs, _, h => by simp only [Cells] at *; exact h
 | x :: l, vs, hc, h => by
   simp only [Cells, SV.scalarL, Bool.and_eq_true] at *;obtain ⟨u, us, a, b, c, d, e⟩ := h;exact ⟨u, us, a, Cp hc.1 b, c, d, H8 hc.2 e⟩
end
def G1 (es : List (List UInt8)) : List (List PV) := es.map fun b => [.sl false 1 (Ad b)]
def Ahq (o : Option (List UInt8)) : SV := match o with
 | some b => .pv (.sl false 1 (Ad b))
 | none => .dead
def Lu (es : List (List UInt8)) : Nat → SV
 | 0 => .pv (.sl false 1 (G1 es))
 | i + 1 => Ahq es[i]?
def W3 (x : SV) (off : Nat) : Option (List PV) → SV
 | some cs => .pi x.width [cs] 0 off
 | none => .dead
mutual
def F6 (h : Nat → Option Blk) : SV → SV
 | .os n => match h n with
   | some (.row sz es) => .pv (.sl false sz es)
   | _ => .dead
 | .nt n i => match h n with
   | some (.nest es) => Lu es i
   | _ => .dead
 | .p n off => match h n with
   | some (.var x) => W3 x off x.cells?
   | _ => .dead
 | .fn f l => .fn f (Cd h l)
 | x => x
def Cd (h : Nat → Option Blk) : List SV → List SV
 | [] => []
 | x :: l => F6 h x :: Cd h l
end
mutual
def E7 : SV → Bool
 | .os _ => true
 | .nt _ _ => true
 | .p _ _ => true
 | .fn _ l => A4 l
 | x => x.closed
def A4 : List SV → Bool
 | [] => true
 | x :: l => E7 x && A4 l
end
mutual
def J8 : SV → List Nat
 | .os n => [n]
 | .nt n _ => [n]
 | .p n _ => [n]
 | .fn _ l => Bn l
 | _ => []
def Bn : List SV → List Nat
 | [] => []
 | x :: l => J8 x ++ Bn l
end
def A9 (s : FS) (ns : List Nat) : FS := ⟨s.t, fun n => if n ∈ ns then none else s.h n⟩
theorem Nj (h : Nat → Option Blk) : ∀ l : List SV, (Cd h l).length = l.length
 | [] => by simp only [Cd]
 | x :: l => by simp only [Cd, List.length_cons, Nj h l]
theorem H4 (s : FS) (ns : List Nat) : Weak s (A9 s ns) := ⟨fun n => .refl _, fun n b' hb => by
 simp only [A9] at hb;split at hb
 · cases hb
 · rw [hb]; simp only [Uf];cases b' with
   | var x => exact ⟨.refl _, rfl⟩
   | row sz es => exact ⟨rfl, rfl⟩
   | rowc sz es c => exact ⟨rfl, rfl, rfl⟩
   | it l p => exact ⟨rfl, rfl⟩
   | nest es => rfl⟩
theorem Ch (F : Fr) (w : World) (ρ : Nat → Value) (s : FS) (ns : List Nat) : (vw F w ρ s).le (vw F w ρ (A9 s ns)) := A6 fun b c ho hc => ⟨fun hb => ho (hb.imp_left fun ⟨n, x, h1, h2⟩ => by
 simp only [A9] at h1;split at h1
 · cases h1
 · exact ⟨n, x, h1, h2⟩), hc⟩
theorem Vy {w : World} {v : Value} {sz : Nat} {es es' : List (List PV)} (h : SlV w V v sz es) (he : es'.length = es.length) (hsz : ∀ c ∈ es', c.length = sz) (hb : ∀ b c, D9 v b → A3 w b = some c → V' b = some c)
 (hx : ∀ (i j : Nat) (c c' : List PV) (x x' : PV) (u : Value), es[i]? = some c → es'[i]? = some c' → c[j]? = some x → c'[j]? = some x' → PConc V x u → PConc V' x' u) : PConc V' (.sl false sz es') v := by
 obtain ⟨base, cap, rfl, h2, h3, h4, h5⟩ := h;rw [← he];by_cases hc : cap = 0
 · have he : es' = [] := List.eq_nil_of_length_eq_zero (by omega);subst he;exact .sl false sz [] base cap (fun _ _ => undef) 0 0 #[] (by simp) (by simp) (by simp) (by simp) (by simp) (by simp)
 · obtain ⟨b, vs, ty, fr, rfl, e2, e3, e4, e5, e6⟩ := h5 hc;have hview : V' b = some ⟨vs⟩ := hb b _ ⟨hc, rfl⟩ (by unfold A3; rw [e2]);have hin : ∀ i, i < es.length → i * sz + sz ≤ vs.length := fun i hi => by
    have : (i + 1) * sz ≤ cap * sz := Nat.mul_le_mul_right _ (by omega);rw [Nat.succ_mul] at this; omega
   refine .sl false sz es' _ cap (fun i j => (vs[i * sz + j]?).getD undef) b 0 ⟨vs⟩ (by omega) (by simp) hsz (fun _ => ⟨rfl, hview⟩) (fun i j hi hj => ?_) (fun i j c' x' hc hj => ?_)
   · have := hin i (by omega);have hlt : i * sz + j < vs.length := by omega
     simp [hlt]
   · have hi : i < es'.length := (List.getElem?_eq_some_iff.1 hc).1;have hl := hsz c' (List.mem_of_getElem? hc);have hj' : j < sz := by have := (List.getElem?_eq_some_iff.1 hj).1; omega
     have hci : es[i]? = some es[i] := List.getElem?_eq_getElem (by omega);have hcl := h4 _ (List.mem_of_getElem? hci);have hxj : (es[i])[j]? = some (es[i])[j] := List.getElem?_eq_getElem (by omega);obtain ⟨v, g1, g2⟩ := (e6 i _ hci).2 j _ hxj;rw [List.getElem?_take, if_pos hj', List.getElem?_drop] at g1;rw [g1]; exact hx i j _ _ _ _ v hci hc hxj hj g2
theorem Xh {l : List Value} {v : Value} {b : Nat} (hv : v ∈ l) (hb : D9 v b) : A1 (.tuple ⟨l⟩) b := ⟨v, hv, hb⟩
theorem T3 (hR : RelR F N ρ s a w) {n : Nat} {ns : List Nat} {x : Blk} (hn : s.h n = some x) (hns : n ∈ ns) {b : Nat} {c : Array Value} (hb : A1 (ρ n) b) (hc : A3 w b = some c) : vw F w ρ (A9 s ns) b = some c := by
 unfold vw Ak;rw [if_neg]
 · exact hc
 · rintro (⟨m, y, g1, g2⟩ | g)
   · simp only [A9] at g1;split at g1
     · cases g1
     · rename_i hm;exact hm ((hR.inj m n y _ b g1 hn g2 hb) ▸ hns)
   · exact hR.shown ⟨n, _, hn, hb⟩ g
theorem Qr {l : List UInt8} : ∀ c ∈ Ad l, c.length = 1 := by
 intro c hc;simp only [Ad, List.mem_map] at hc;obtain ⟨_, _, rfl⟩ := hc; rfl
theorem Ahp {w : World} {v : Value} {l : List UInt8} (h : SlV w V v 1 (Ad l)) (hb : ∀ b c, D9 v b → A3 w b = some c → V' b = some c) : PConc V' (.sl false 1 (Ad l)) v :=
 Vy h rfl Qr hb fun i j c c' x x' u h1 h2 h3 h4 h5 => by
  rw [h1] at h2; cases h2;rw [h3] at h4; cases h4;have hm := List.mem_of_getElem? h1;simp only [Ad, List.mem_map] at hm;obtain ⟨q, _, rfl⟩ := hm;cases j with
  | zero => cases h3; cases h5; exact .i _ _
  | succ j => simp at h3
theorem Nf (hR : RelR F N ρ s a w) {n i : Nat} {ns : List Nat} {es : List (List UInt8)} {v : Value} (hn : s.h n = some (.nest es)) (hns : n ∈ ns) (h : Conc (vw F w ρ s) ρ (.nt n i) v) :
 Conc (vw F w ρ (A9 s ns)) ρ (Lu es i) v := by
 simp only [Conc] at h;obtain ⟨l, h1, h2, _⟩ := h;have hO := hR.own n _ hn;have hb : ∀ u ∈ l, ∀ b c, D9 u b → A3 w b = some c → vw F w ρ (A9 s ns) b = some c := fun u hu b c hb hc => T3 hR hn hns (by rw [h1]; exact Xh hu hb) hc;have hin : ∀ (j : Nat) (c : Value) (q : List UInt8), l[j + 1]? = some c → es[j]? = some q → PConc (vw F w ρ (A9 s ns)) (.sl false 1 (Ad q)) c := fun j c q hj hq => by
  rcases E6 hO h1 hj with ⟨e, _⟩ | ⟨j', b, e, e2, e3⟩
  · cases e
  · cases e;rw [hq] at e2; cases e2;exact Ahp e3 (hb c (List.mem_of_getElem? hj))
 cases i with
 | succ j =>
   rcases E6 hO h1 h2 with ⟨e, _⟩ | ⟨j', b, e, e2, e3⟩
   · cases e
   · cases e;simp only [Lu, Ahq, e2, Conc];exact hin j v b h2 e2
 | zero =>
   rcases E6 hO h1 h2 with ⟨_, cs, rfl, e2, e3⟩ | ⟨j', b, e, _⟩
   · simp only [Lu, Conc];refine Vy e3 (by simp [G1, e2]) (fun c hc => ?_) (hb v List.mem_cons_self) fun i j c c' x x' u g1 g2 g3 g4 g5 => ?_
     · simp only [G1, List.mem_map] at hc;obtain ⟨_, _, rfl⟩ := hc; rfl
     · simp only [G1, List.getElem?_map, Option.map_eq_some_iff] at g1 g2;obtain ⟨u0, f1, rfl⟩ := g1;obtain ⟨q, f2, rfl⟩ := g2;cases j with
       | zero =>
         cases g3; cases g4; cases g5;exact hin i u q f1 f2
       | succ j => simp at g3
   · cases e
mutual
theorem T4 (hR : RelR F N ρ s a w) {h : Nat → Option Blk} {ns : List Nat} : ∀ {x : SV} {v : Value}, E7 x = true → (∀ n ∈ tn x, s.h n = h n) → (∀ n ∈ J8 x, n ∈ ns) →
 Conc (vw F w ρ s) ρ x v → Conc (vw F w ρ (A9 s ns)) ρ (F6 h x) v
 | .os n, v, hl, hh, hn, h1 => by
   simp only [F6];have hhn := hh n (by simp [tn]);have hns := hn n (by simp [J8]);split
   · rename_i sz es hrow;rw [← hhn] at hrow;simp only [Conc] at h1 ⊢;rw [h1.1];have := Ll hR hrow;refine this.mono (A6 fun b c ho hc => ⟨fun hb => ho (hb.imp_left fun ⟨m, x, g1, g2⟩ => ?_), hc⟩);simp only [A9] at g1;split at g1
     · cases g1
     · rename_i hm;refine ⟨m, x, ?_, g2⟩;simp only [FS.seth];rw [if_neg fun e => hm (by rw [e]; exact hns)];exact g1
   · simp only [Conc]
 | .nt n i, v, hl, hh, hn, h1 => by
   simp only [F6];have hhn := hh n (by simp [tn]);have hns := hn n (by simp [J8]);split
   · rename_i es hrow;rw [← hhn] at hrow;exact Nf hR hrow hns h1
   · simp only [Conc]
 | .p n off, v, hl, hh, hn, h1 => by
   simp only [F6];have hhn := hh n (by simp [tn]);have hns := hn n (by simp [J8]);split
   · rename_i x hvar;rw [← hhn] at hvar;cases hcs : x.cells? with
     | none => simp only [W3, Conc]
     | some cs =>
       simp only [Conc] at h1;obtain ⟨b, hb, rfl⟩ := h1;obtain ⟨b', vs, ty, fr, u, k1, k2, k3, k4, k5, k6, k7⟩ := hR.own n _ hvar;rw [k1] at hb;simp only [Value.pointer.injEq, Option.some.injEq, Addr.mk.injEq, and_true] at hb;subst hb;have hp := Conc.cells k4 hcs;simp only [W3, Conc];refine ⟨b', 0, ⟨vs⟩, by simp, ?_, fun c hc => ?_⟩
       · unfold vw Ak;rw [if_neg]
         · unfold A3; rw [k2]
         · rintro (⟨m, y, g1, g2⟩ | g)
           · simp only [A9] at g1;split at g1
             · cases g1
             · rename_i hm;exact hm ((hR.inj m n y _ b' g1 hvar g2 (by rw [k1]; rfl)) ▸ hns)
           · exact hR.shown ⟨n, _, hvar, by rw [k1]; rfl⟩ g
       · simp only [List.getElem?_cons_zero, Option.some.injEq] at hc;subst hc;have hl : cs.length = x.width := by rw [hp.1, ← k5]; exact k6
         refine ⟨hl, ?_⟩;have e : (vs.drop (0 + 0 * x.width)).take x.width = vs := by simp [k6 ▸ List.take_length]
         rw [e, k5];exact hp.mono (Ch F w ρ s ns)
   · simp only [Conc]
 | .fn f l, v, hl, hh, hn, h1 => by
   simp only [F6, Conc] at *;obtain ⟨vs, rfl, h2⟩ := h1;exact ⟨vs, rfl, Hs hR (by simpa [E7] using hl) (fun n hm => hh n (by simp only [tn]; exact hm)) (fun n hm => hn n (by simpa [J8] using hm)) h2⟩
 | .pv x, v, hl, _, _, h1 => A8 (Ch F w ρ s ns) rfl h1
 | .vec n cs, v, hl, _, _, h1 => A8 (Ch F w ρ s ns) rfl h1
 | .agg l, v, hl, _, _, h1 => by
   have e : F6 h (.agg l) = .agg l := by simp only [F6]
   rw [e];exact A8 (Ch F w ρ s ns) (by simpa only [E7] using hl) h1
 | .tup l, v, hl, _, _, h1 => by
   have e : F6 h (.tup l) = .tup l := by simp only [F6]
   rw [e];exact A8 (Ch F w ρ s ns) (by simpa only [E7] using hl) h1
 | .pi _ _ _ _, v, hl, _, _, h1 => A8 (Ch F w ρ s ns) rfl h1
 | .dead, v, hl, _, _, h1 => A8 (Ch F w ρ s ns) rfl h1
 | .np _ _ _, v, hl, _, _, h1 => by simp [E7, SV.closed] at hl
 | .ps _ _, v, hl, _, _, h1 => by simp [E7, SV.closed] at hl
 | .pr _ _ _ _, v, hl, _, _, h1 => by simp [E7, SV.closed] at hl
 | .ov _ _ _ _, v, hl, _, _, h1 => by simp [E7, SV.closed] at hl
theorem Hs (hR : RelR F N ρ s a w) {h : Nat → Option Blk} {ns : List Nat} : ∀ {args : List SV} {vs : List Value}, A4 args = true → (∀ n ∈ Bf args, s.h n = h n) → (∀ n ∈ Bn args, n ∈ ns) →
 ConcL (vw F w ρ s) ρ args vs → ConcL (vw F w ρ (A9 s ns)) ρ (Cd h args) vs
 | [], vs, _, _, _, hc => by simp only [ConcL, Cd] at *; exact hc
 | x :: l, vs, hl, hh, hn, hc => by
   simp only [ConcL, Cd, A4, Bool.and_eq_true, Bn, List.mem_append] at *;obtain ⟨u, us, rfl, h1, h2⟩ := hc;exact ⟨u, us, rfl, T4 hR hl.1 (fun n hm => hh n (by simp only [Bf, List.mem_append]; exact .inl hm)) (fun n hm => hn n (.inl hm)) h1, Hs hR hl.2 (fun n hm => hh n (by simp only [Bf, List.mem_append]; exact .inr hm)) (fun n hm => hn n (.inr hm)) h2⟩
end
structure After (F : Fr) (N : Nat) (ρ : Nat → Value) (s : FS) (ns : List Nat) (a : Act) (w : World) (R : SV → FS → Prop) (v : Value) (w' : World) : Prop where
 grew : Grew w w'
 out : ∃ (N' : Nat) (ρ' : Nat → Value) (s' : FS) (a' : Act) (y : SV), RelR ⟨w, fun _ => False, F.out ρ (A9 s ns).h, fun _ => undef, []⟩ N' ρ' s' a' w' ∧ Conc (vw ⟨w, fun _ => False, F.out ρ (A9 s ns).h, fun _ => undef, []⟩ w' ρ' s') ρ' y v ∧ R y s'
theorem C9 (hm : P.follows .mixedOrders = true) {f N' : Nat} {rs : List Rv} {c : C} (hf : Ds P f = some (N', rs, c)) {args : List SV} {h : Nat → Option Blk} (hlen : args.length ≤ N') (hl : A4 args = true)
 {R : SV → FS → Prop} {Q : A5} (hQ : ∀ e s, Q e s → (e = .normal ∨ e = .ret) ∧ Oe rs R s) (hrun : ∀ F, sx (env P F N') c Q (mk (D0 0 (Cd h args)) []))
 (hR : RelR F N ρ s a w) (hh : ∀ n ∈ Bf args, s.h n = h n) {vs : List Value} (hc : ConcL (vw F w ρ s) ρ args vs) :
 Calls P f ⟨vs⟩ w fun e w' => ∃ v, e = .returned v ∧ After F N ρ s (Bn args) a w R v w' := by
 have hRb := hR.weak (H4 s (Bn args));have hcb := Hs hR (ns := Bn args) hl hh (fun _ h => h) hc;refine Calls.mono (Uz hm hf (hid := F.out ρ (A9 s (Bn args)).h) (fun b hb => ?_) hR.tabW (by rw [Nj]; exact hlen) hcb hQ (hrun _)) fun e w' he => ?_
 · rcases hb with hb | hb
   · exact hRb.lt hb
   · exact Nat.lt_of_lt_of_le (hR.fr.hid b hb).1 hR.fr.size
 · obtain ⟨v, ρ', s', a', y, rfl, h1, h2, h3⟩ := he;exact ⟨v, rfl, ⟨h1.fr.os, h1.fr.tape, h1.fr.output, h1.fr.size, fun b hb => h1.fr.block b hb id⟩, N', ρ', s', a', y, h1, h2, h3⟩
theorem Mv {N' : Nat} {ρ' : Nat → Value} {s' : FS} {a' : Act} (hR' : RelR ⟨w, fun _ => False, F.out ρ s.h, fun _ => undef, []⟩ N' ρ' s' a' w') : (vw ⟨w, fun _ => False, F.out ρ s.h, fun _ => undef, []⟩ w' ρ' s').le (vw F w' ρ s) :=
 A6 fun b c ho hc => ⟨fun hb => ho (.inr hb), hc⟩
mutual
theorem T5 : ∀ {x : SV}, x.closed = true → J8 x = [] ∧ E7 x = true ∧ ∀ h, F6 h x = x
 | .fn f l, hc => by
   simp only [SV.closed] at hc;obtain ⟨h1, h2, h3⟩ := Br hc;exact ⟨by simp only [J8]; exact h1, by simp only [E7]; exact h2, fun h => by simp only [F6, h3 h]⟩
 | .pv _, hc => ⟨rfl, rfl, fun h => by simp only [F6]⟩
 | .vec _ _, hc => ⟨rfl, rfl, fun h => by simp only [F6]⟩
 | .agg _, hc => ⟨rfl, by simp only [E7]; exact hc, fun h => by simp only [F6]⟩
 | .tup _, hc => ⟨rfl, by simp only [E7]; exact hc, fun h => by simp only [F6]⟩
 | .pi _ _ _ _, hc => ⟨rfl, rfl, fun h => by simp only [F6]⟩
 | .dead, hc => ⟨rfl, rfl, fun h => by simp only [F6]⟩
 | .p _ _, hc => by simp [SV.closed] at hc
 | .ps _ _, hc => by simp [SV.closed] at hc
 | .pr _ _ _ _, hc => by simp [SV.closed] at hc
 | .os _, hc => by simp [SV.closed] at hc
 | .nt _ _, hc => by simp [SV.closed] at hc
 | .np _ _ _, hc => by simp [SV.closed] at hc
 | .ov _ _ _ _, hc => by simp [SV.closed] at hc
theorem Br : ∀ {args : List SV}, SV.closedL args = true → Bn args = [] ∧ A4 args = true ∧ ∀ h, Cd h args = args
 | [], _ => ⟨by simp only [Bn], by simp only [A4], fun _ => by simp only [Cd]⟩
 | x :: l, hc => by
   simp only [SV.closedL, Bool.and_eq_true] at hc;obtain ⟨g1, g2, g3⟩ := T5 hc.1;obtain ⟨h1, h2, h3⟩ := Br hc.2;exact ⟨by simp only [Bn, g1, h1]; rfl, by simp only [A4, g2, h2]; rfl, fun h => by simp only [Cd, g3 h, h3 h]⟩
end
theorem Ee (s : FS) : A9 s [] = s := by simp [A9]
theorem Cm {f : Nat} {rs : List Rv} {c : C} (hf : Ds P f = some (N, rs, c)) : I2 P f := by
 obtain ⟨fn, code, h1, h2, h3, _⟩ := Kx hf;exact ⟨fn, h1, h2, by rw [h3]; rfl⟩
theorem Qf (hm : P.follows .mixedOrders = true) {f N' : Nat} {rs : List Rv} {c : C} (hf : Ds P f = some (N', rs, c)) {args : List SV} {h : Nat → Option Blk} {d : Nat} {x : SV} (hlen : args.length ≤ N')
 (hargs : SV.closedL args = true) (hx : x.closed = true) (hrun : ∀ F, sx (env P F N') c (Vi rs fun y _ => y = x) (mk (D0 0 args) [])) : FunOk P f args h d x [] := by
 obtain ⟨h1, h2, h3⟩ := Br hargs;refine ⟨Cm hf, fun F N ρ s a w hR hh vs hc => ?_⟩;refine Calls.mono (C9 hm hf (h := h) hlen h2 Ln (by rw [h3]; exact hrun) hR hh hc) fun e w' he => ?_;obtain ⟨v, rfl, hg, N'', ρ', s', a', y, hR', hy, rfl⟩ := he;rw [h1, Ee] at hR' hy;exact ⟨v, ρ, rfl, hR.grew hg, A8 (Mv hR') hx hy⟩
theorem Uk (hm : P.follows .mixedOrders = true) {f N' : Nat} {rs : List Rv} {c : C} (hf : Ds P f = some (N', rs, c)) {args : List SV} {h : Nat → Option Blk} {d : Nat} {x : SV} (hlen : args.length ≤ N')
 (hargs : SV.closedL args = true) (hx : x.closed = true) (hrun : ∀ F, sx (env P F N') c (Af7 rs fun y _ => y = x) (mk (D0 0 args) [])) : FunOk P f args h d x [] := by
 obtain ⟨h1, h2, h3⟩ := Br hargs;refine ⟨Cm hf, fun F N ρ s a w hR hh vs hc => ?_⟩;refine Calls.mono (C9 hm hf (h := h) hlen h2 Adr (by rw [h3]; exact hrun) hR hh hc) fun e w' he => ?_;obtain ⟨v, rfl, hg, N'', ρ', s', a', y, hR', hy, rfl⟩ := he;rw [h1, Ee] at hR' hy;exact ⟨v, ρ, rfl, hR.grew hg, A8 (Mv hR') hx hy⟩
theorem Hu (hm : P.follows .mixedOrders = true) {f N' : Nat} {rs : List Rv} {c : C} (hf : Ds P f = some (N', rs, c)) {args : List SV} {h : Nat → Option Blk} {d : Nat} {x : SV} (hlen : args.length ≤ N')
 (hargs : A4 args = true) (hx : x.scalar = true) (hrun : ∀ F, sx (env P F N') c (Vi rs fun y _ => y = x) (mk (D0 0 (Cd h args)) [])) : FunOk P f args h d x [] := by
 refine ⟨Cm hf, fun F N ρ s a w hR hh vs hc => ?_⟩;refine Calls.mono (C9 hm hf (h := h) hlen hargs Ln hrun hR hh hc) fun e w' he => ?_;obtain ⟨v, rfl, hg, N'', ρ', s', a', y, hR', hy, rfl⟩ := he;exact ⟨v, ρ, rfl, hR.grew hg, Cp hx hy⟩
theorem Xs (hm : P.follows .mixedOrders = true) {f N' : Nat} {rs : List Rv} {c : C} (hf : Ds P f = some (N', rs, c)) {args : List SV} {h : Nat → Option Blk} {d : Nat} {z : SV} {sz : Nat} {es : List (List PV)} (hlen : args.length ≤ N')
 (hargs : A4 args = true) (hx : SV.closedL args = true ∨ ∀ c ∈ es, c.all PV.flat = true) (hzs : z.scalar = true) (hrun : ∀ F, sx (env P F N') c (Vi rs fun y g => ∃ n, y = .tup [.os n, z] ∧ g n = some (.row sz es)) (mk (D0 0 (Cd h args)) [])) :
 FunOk P f args h d (.tup [.os d, z]) [.new d (.row sz es)] := by
 refine ⟨Cm hf, fun F N ρ s a w hR hh vs hc => ?_⟩;refine Calls.mono (C9 hm hf (h := h) hlen hargs Ln hrun hR hh hc) fun e w' he => ?_;obtain ⟨v, rfl, hg, N'', ρ', s', a', y, hR', hy, n, rfl, hn⟩ := he;simp only [Conc, ConcL] at hy;obtain ⟨tv, rfl, u1, us1, rfl, hy, u2, us2, rfl, hz2, rfl⟩ := hy;obtain ⟨base, cap, g1, g2, g3, g4, g5⟩ := hR'.own n _ hn;have hown : ∀ b, A1 (ρ' n) b → w.heap.size ≤ b ∧ b < w'.heap.size := fun b hb => by
  have ho : Ar ρ' s'.h b := ⟨n, _, hn, hb⟩
  exact ⟨(hR'.may b ho).resolve_right id, hR'.lt ho⟩
 have hnew := hR.adopt hg d (.row sz es) (ρ' n) hown fun hV => by
  refine ⟨base, cap, by rw [Ai]; exact g1, g2, g3, g4, fun hcap => ?_⟩;obtain ⟨b, vs', ty, fr, k1, k2, k3, k4, k5, k6⟩ := g5 hcap;refine ⟨b, vs', ty, fr, k1, k2, k3, k4, k5, fun i c hi => ?_⟩;rcases hx with hx | hx
  · obtain ⟨e1, _, _⟩ := Br hx;rw [e1, Ee] at hR' k6;refine (k6 i c hi).mono (A6 fun b' c' ho hc' => ⟨fun hb' => ?_, hc'⟩);rcases hb' with ⟨m, z, hm1, hm2⟩ | hb'
    · by_cases hmd : m = d
      · subst hmd;rw [Ai] at hm2;exact ho (.inl ⟨n, _, hn, hm2⟩)
      · rw [Ao hmd] at hm2;simp only [FS.seth, FS.kill, hmd, if_false] at hm1;obtain ⟨z', hz', _⟩ := Option.map_eq_some_iff.1 hm1;exact ho (.inr (.inl ⟨m, z', hz', hm2⟩))
    · exact ho (.inr (.inr hb'))
  · exact Hv (hx c (List.mem_of_getElem? hi)) (k6 i c hi)
 refine ⟨_, _, rfl, hnew.1, ?_⟩;simp only [Conc, ConcL];exact ⟨_, rfl, u1, _, rfl, ⟨by rw [Ai]; exact hy.1, hy.2⟩, u2, _, rfl, Cp hzs hz2, rfl⟩
end Go.Proofs.Ytdikcfjpcgapaaa.Fw
namespace Go.Proofs.Ytdikcfjpcgapaaa.Fw
open Go.RowKit
theorem Aas {α : Type} (I : α → FS) (J : α → Prop) (m : α → Nat) (x : α) (Q : A5) (s) : Ta I J m x Q .normal s = ∃ y, J y ∧ m y < m x ∧ Wk s (I y) := (rfl)
theorem Aat {α : Type} (I : α → FS) (J : α → Prop) (m : α → Nat) (x : α) (Q : A5) (s i) : Ta I J m x Q (.exit i) s = Q (.exit i) s := (rfl)
theorem Aar {α : Type} (I : α → FS) (J : α → Prop) (m : α → Nat) (x : α) (Q : A5) (s) : Ta I J m x Q .ret s = Q .ret s := (rfl)
theorem Adt (rs R s) : Vi rs R .ret s = F5 s rs fun l => R (one l) s.h := (rfl)
theorem Wb (s K) : F5 s [] K = K [] := (rfl)
theorem Adu (s n rs K) : F5 s (.t n :: rs) K = F5 s rs fun l => K (s.t n :: l) := (rfl)
def S5 (s : FS) (rs : List Rv) (K : List SV → Prop) : KK := fun x u => u = [] ∧ F5 s rs fun l => K (x :: l)
theorem Adv (s a size ag rs K) : F5 s (.c a size ag :: rs) K = Dk s.h size ag (s.t a) (S5 s rs K) := (rfl)
theorem Rk (s rs K x u) : S5 s rs K x u = (u = [] ∧ F5 s rs fun l => K (x :: l)) := (rfl)
theorem Agw (x) : one [x] = x := (rfl)
theorem Agv (x y l) : one (x :: y :: l) = .tup (x :: y :: l) := (rfl)
theorem Yk (k) : D0 k [] = [] := (rfl)
theorem U4 (k x l) : D0 k (x :: l) = (k, x) :: D0 (k + 1) l := (rfl)
theorem Xd (s) : Qc s [] = True := (rfl)
theorem Ub (s n x l) : Qc s ((n, x) :: l) = (Imp (s.t n) x ∧ Qc s l) := (rfl)
theorem Xe (s) : M3 s [] = True := (rfl)
theorem Uc (s n b l) : M3 s ((n, some b) :: l) = (Uf (s.h n) b ∧ M3 s l) := (rfl)
theorem Ud (x y) : Uf (some x) y = Vj x y := (rfl)
theorem Xg (a b c d) : Vj (.row a b) (.row c d) = (a = c ∧ b = d) := (rfl)
theorem Xf (x y) : Vj (.var x) (.var y) = (Imp x y ∧ x.width = y.width) := (rfl)
theorem Xc (x) : Imp x x = True := eq_true (Imp.refl x)
theorem Sd (l : List UInt8) (k : Nat) (h : k < l.length) : (Ad l)[k]? = some [.i .u8 (l[k]).toNat] := by
 simp [Ad, h]
theorem Av (l : List UInt8) : (Ad l).length = l.length := by simp [Ad]
theorem Ev {n : Int} (h : -9223372036854775808 ≤ n ∧ n < 9223372036854775808) : IntKind.i64.wrap n = n := by
 simp [IntKind.wrap, IntKind.signed, IntKind.bits]; omega
mutual
theorem Qp (n : Nat) : ∀ {x : SV}, x.closed = true → x.kill n = x
 | .pv _, _ => by simp only [SV.kill]
 | .vec _ _, _ => by simp only [SV.kill]
 | .agg l, h => by simp only [SV.closed] at h; simp only [SV.kill, C0 n h]
 | .tup l, h => by simp only [SV.closed] at h; simp only [SV.kill, C0 n h]
 | .pi _ _ _ _, _ => by simp only [SV.kill]
 | .fn f l, h => by simp only [SV.closed] at h; simp only [SV.kill, C0 n h]
 | .dead, _ => by simp only [SV.kill]
 | .p _ _, h => by simp [SV.closed] at h
 | .ps _ _, h => by simp [SV.closed] at h
 | .pr _ _ _ _, h => by simp [SV.closed] at h
 | .os _, h => by simp [SV.closed] at h
 | .nt _ _, h => by simp [SV.closed] at h
 | .np _ _ _, h => by simp [SV.closed] at h
 | .ov _ _ _ _, h => by simp [SV.closed] at h
theorem C0 (n : Nat) : ∀ {l : List SV}, SV.closedL l = true → SV.killL n l = l
 | [], _ => by simp only [SV.killL]
 | x :: l, h => by
   simp only [SV.closedL, Bool.and_eq_true] at h;simp only [SV.killL, Qp n h.1, C0 n h.2]
end
theorem Az {P : Program} {E : Env} {f : Nat} {args : List SV} {h : Nat → Option Blk} {d : Nat} {x : SV} {u : List HU} {K : KK} (hf : FunOk P f args h d x u) (hk : K x u) (hE : E.call = Zf P := by rfl) : Mb E f args h d K := ⟨x, u, .inl (hE ▸ .inl hf), hk⟩
theorem Aag (w : World) (ht : Zd w) : RelR ⟨w, fun _ => False, fun _ => False, fun _ => undef, []⟩ 0 (fun _ => undef) ⟨fun _ => .dead, fun _ => none⟩ ⟨#[], []⟩ w :=
 ⟨⟨rfl, rfl, rfl, Nat.le_refl _, fun _ _ _ => rfl, fun _ h => h.elim, ⟨ht, fun _ _ => id⟩⟩, fun b ⟨n, x, h, _⟩ => by simp at h, fun n x h => by simp at h, fun n m x y b h => by simp at h, fun n => by simp only [Conc], rfl, rfl⟩
theorem FunOk.law {P : Program} {f : Nat} {args : List SV} {h d} (hf : FunOk P f args h d (.pv (.b true)) []) (hc : SV.closedL args = true) {w : World} {vs : List Value} {ρ : Nat → Value} (hv : ConcL (Ak w fun _ => False) ρ args vs) (htw : Zd w) :
 Calls P f ⟨vs⟩ w fun e w' => e = .returned (.bool true) ∧ Below w.heap.size w w' := by
 have ht : Bf args = [] := by
  cases hx : Bf args with
  | nil => rfl
  | cons n l =>
    have : SV.killL n args = args := by
     have key : ∀ (l : List SV), SV.closedL l = true → ∀ n, SV.killL n l = l := fun l hl n => C0 n hl;exact key args hc n
    exact absurd (by rw [hx]; simp) (Ew this)
 have hV : (Ak w fun _ => False).le (vw ⟨w, fun _ => False, fun _ => False, fun _ => undef, []⟩ w (fun _ => undef) ⟨fun _ => .dead, fun _ => none⟩) :=
  A6 fun b c _ hb => ⟨fun hh => hh.elim (fun ⟨n, x, h, _⟩ => by simp at h) id, hb⟩
 refine Calls.mono (hf.2 _ 0 _ _ _ w (Aag w htw) (by rw [ht]; simp) vs (Dx hV hc hv)) fun e w' he => ?_;obtain ⟨v, ρ', rfl, hR, hy⟩ := he;exact ⟨by rw [Io hy], hR.fr.os, hR.fr.tape, hR.fr.output, hR.fr.size, fun b hb => hR.fr.block b hb id⟩
end Go.Proofs.Ytdikcfjpcgapaaa.Fw
namespace Go.Proofs.Ytdikcfjpcgapaaa.Fw
open Go.RowKit
variable (E : Env)
def brK (a : C) (Q : A5) (s : FS) : Prop := sx E a Q s
def gdK (k : Kd) (x : List Opd) (d : Nat) (l : List I) (Q : A5) (s : FS) : Prop := body E k x d s (Kb E (some d) l Q s)
def skK (d : Option Nat) (l : List I) (Q : A5) (s : FS) : Prop := S0 E l Q (s.apply d (.tup []) [])
def gdA (D : List Nat) (c : Nat) (k : Kd) (x : List Opd) (d : Nat) (l : List (I × Nat × List Nat)) (Q : A5) (s : FS) : Prop := body E k x d s (Nw E D c (some d) l Q s)
def skA (D : List Nat) (c : Nat) (d : Option Nat) (l : List (I × Nat × List Nat)) (Q : A5) (s : FS) : Prop := Nw E D c d l Q s (.tup []) []
def pkK (K : KK) (x : SV) : Prop := K x []
theorem Mn (a Q s) : brK E a Q s = sx E a Q s := (rfl)
theorem Mm (k x d l Q s) : gdK E k x d l Q s = body E k x d s (Kb E (some d) l Q s) := (rfl)
theorem Ml (d l Q s) : skK E d l Q s = S0 E l Q (s.apply d (.tup []) []) := (rfl)
theorem Mk (D c k x d l Q s) : gdA E D c k x d l Q s = body E k x d s (Nw E D c (some d) l Q s) := (rfl)
theorem Mj (D c d l Q s) : skA E D c d l Q s = Nw E D c d l Q s (.tup []) [] := (rfl)
theorem Mg (K x) : pkK K x = K x [] := (rfl)
attribute [go_sem] X5 Zw Vt Ts Tr Uh Ui Zr Zs Zq Aa6 Aa5 Aa7 Adb T9 X6 Zx Vu Agz Agy Aao Rl Ac6 Ac9 Vs Zv Ac8 Zt Zu Ada Aet Aeu Ab9 Aca Abb Abc Aa9 Abd Xt Xu Um Xv Uo Un Ajv f_p Ajw Ajx Ae8 Abo Ae5 Ae6 Ri H6 Ks Ah2 Ai7 Ah3 Aht Aee Aau T7 Rr T8 Rt Rs Ajn Ajo k_p Ajp Ahm Ajr Aeq Aa1 Aeo Aep Abp Xx U2 Aj5 Afz Aif Aim Ail Aj7 Aid Ain Aj4 Aik Aio Aip Aie Aii Aij Aih Aiq Aj6 Aig Aji Ad9 Ad6 Ad7 Ag2 Ag8 Ag7 Ya Ajk Ag0 Ag9 W5 Yh Ajh Ac3 Ag6 Ws Wt Aha Ag1 Ag4 Aew Aex Xi Ahj Ahk Ajm Ahg Ahh Aaw Wz Abv X4 Ai4 Agr Ai5 Aj2 Agp Vw Agq Ai8 Agm Zy Ajt Uj Xl Abt Yl Ajs Ae3 Abf Ajz Aj0 Ahb Af3 Ag5 Wp Wq Ajj Ajl Ag3 Aib Aia Afy Afq Afs Afr Aic Afx Aft Afu Afv Afw Afn Afm Ahx Ahy Air Ai2 Ai3 Aad Afa Wv Adn Adm Adl Adk Z8 Ahc Ahs Ahr if_true if_false Option.map_some Option.bind_some Nat.le_refl and_self List.append_nil List.nil_append List.cons_append true_and and_true true_or or_true Bool.false_and Bool.true_and Bool.false_or Bool.or_false Bool.and_false Bool.and_true Bool.not_true Bool.not_false Int.toNat_zero List.drop_zero Int.toNat_natCast Nat.zero_add Nat.add_zero decide_true decide_false Aas Aat Aar Adt Wb Adu Adv Rk Agw Agv Yk U4 Xd Ub Xe Uc Ud Xg Xf Xc Option.getD_some Option.getD_none true_implies false_implies Ev not_true_eq_false not_false_eq_true
attribute [go_sem_proc] Nat.reduceEqDiff Nat.reduceSub Nat.reduceLeDiff Nat.reduceAdd Int.reduceEq Int.reduceLT Int.reduceLE
attribute [go_sem_proc ↓] reduceIte
end Go.Proofs.Ytdikcfjpcgapaaa.Fw
namespace Go.Proofs.Ytdikcfjpcgapaaa.Fw
open Go.RowKit
def Ab7 (n : Nat) (f : Nat → PV) : List PV := (List.range n).map f
abbrev Vc := Nat → Nat
def vE (a : Vc) : List PV := Ab7 8 fun i => .i .u32 (a i : Int)
def tE (t : Nat → Vc) : List PV := Ab7 64 fun i => .i .u32 (t (i / 8) (i % 8) : Int)
def wE (w : Nat → Bool) : List PV := Ab7 8 fun i => .b (w i)
theorem Zj : ([.i .u32 0, .i .u32 0, .i .u32 0, .i .u32 0, .i .u32 0, .i .u32 0, .i .u32 0, .i .u32 0] : List PV) = vE fun _ => 0 := rfl
theorem Zi : ([.b false, .b false, .b false, .b false, .b false, .b false, .b false, .b false] : List PV) = wE fun _ => false := rfl
theorem Adx : List.replicate 8 (PV.i .u32 0) = vE fun _ => 0 := rfl
theorem Adw : List.replicate 8 (PV.b false) = wE fun _ => false := rfl
theorem Ady : List.replicate 64 (PV.i .u32 0) = tE fun _ _ => 0 := rfl
def iE (f : Nat → Int) : List PV := Ab7 8 fun i => .i .i64 (f i)
theorem Zk : ([.i .i64 0, .i .i64 0, .i .i64 0, .i .i64 0, .i .i64 0, .i .i64 0, .i .i64 0, .i .i64 0] : List PV) = iE fun _ => 0 := rfl
theorem Adz : List.replicate 8 (PV.i .i64 0) = iE fun _ => 0 := rfl
theorem Tc (c cs K) : LoadK (some (c :: cs)) 0 1 false K = K (.pv c) [] := by
 simp [LoadK, Zh]
theorem M9 (c d cs) : splice (c :: cs) 0 [d] = d :: cs := by simp [splice]
theorem Ad8 {p q : Prop} (h : p) : (p ∧ q) = q := propext ⟨fun x => x.2, fun x => ⟨h, x⟩⟩
theorem Ah5 {a b : Int} (h : a < b) : decide (a < b) = true := decide_eq_true h
theorem Ah6 {a b : Int} (h : ¬ a < b) : decide (a < b) = false := decide_eq_false h
theorem Ah7 {a b : Int} (h : ¬ a ≤ b) : decide (a ≤ b) = false := decide_eq_false h
theorem Ah8 {a b : Int} (h : a = b) : decide (a = b) = true := decide_eq_true h
theorem Mc {a b : List UInt8} (h : Ad a = Ad b) : a = b := by
 induction a generalizing b with
 | nil => cases b with
   | nil => rfl
   | cons y b => simp [Ad] at h
 | cons x a ih => cases b with
   | nil => simp [Ad] at h
   | cons y b =>
     simp only [Ad, List.map_cons, List.cons.injEq, PV.i.injEq, true_and, and_true] at h;rw [ih h.2]; congr 1;exact UInt8.toNat_inj.1 (by have := h.1; omega)
theorem X8 (l K) : Mx (Ad l) K = K (.pv (.s l)) [] := by
 unfold Mx;exact propext ⟨fun ⟨m, e, h⟩ => by rw [Mc e]; exact h, fun h => ⟨l, rfl, h⟩⟩
theorem Ej {l : List UInt8} {k : Nat} (h : k < l.length) (K) : LoadK (Ad l)[k]? 0 1 false K = K (.pv (.i .u8 (l.getD k 0).toNat)) [] := by
 rw [Sd l k h];simp only [LoadK, Zh];simp [List.getD_eq_getElem?_getD, h]
theorem Aa8 {k : IntKind} {a b : Int} (h : a = b) : Imp (.pv (.i k a)) (.pv (.i k b)) = True := eq_true (h ▸ Imp.refl _)
def Lo (n m : Nat) : List (Nat × SV) → List (Nat × SV)
 | [] => []
 | (j, x) :: l => (j, x.ren n m) :: Lo n m l
def Ha (n m : Nat) : List (Nat × Option Blk) → List (Nat × Option Blk)
 | [] => []
 | (j, some x) :: l => (if j = m then (j, none) else (j, some (x.ren n m))) :: Ha n m l
 | (j, none) :: l => (j, none) :: Ha n m l
theorem Td (n m k) : ∀ t : List (Nat × SV), lk .dead k (Lo n m t) = (lk .dead k t).ren n m
 | [] => by simp [Lo, lk, SV.ren]
 | (j, x) :: l => by
   simp only [Lo, lk, Td n m k l];split <;> rfl
theorem Kp (n m k) (hk : k ≠ m) : ∀ t : List (Nat × Option Blk), lk none k (Ha n m t) = (lk none k t).map (Blk.ren n m)
 | [] => by simp [Ha, lk]
 | (j, some x) :: l => by
   by_cases hj : j = m
   · subst hj; simp [Ha, lk, hk, Kp n j k hk l]
   · simp only [Ha, hj, if_false, lk, Kp n m k hk l];split <;> rfl
 | (j, none) :: l => by
   simp only [Ha, lk, Kp n m k hk l];split <;> simp
theorem Ad0 (t h n m) (hne : n ≠ m) : (mk t h).ren n m = mk (Lo n m t) ((n, none) :: (m, (lk none n h).map (Blk.ren n m)) :: Ha n m h) := by
 have e1 : (fun k => ((mk t h).t k).ren n m) = (mk (Lo n m t) ((n, none) :: (m, (lk none n h).map (Blk.ren n m)) :: Ha n m h)).t := by
  funext k; simp only [mk, Td]
 have e2 : ((mk t h).ren n m).h = (mk (Lo n m t) ((n, none) :: (m, (lk none n h).map (Blk.ren n m)) :: Ha n m h)).h := by
  funext k;simp only [FS.ren, mk, lk];by_cases h1 : k = m
  · subst h1; rw [if_pos rfl, if_neg (Ne.symm hne), if_pos rfl]
  · rw [if_neg h1];by_cases h2 : k = n
    · subst h2; simp
    · rw [if_neg h2, if_neg h2, if_neg h1, Kp n m k h1]
 show FS.mk _ _ = FS.mk _ _;congr 1
theorem I4 {t : List (Nat × SV)} {h : List (Nat × Option Blk)} {s' : FS} (n m : Nat) (hne : n ≠ m) (hm : lk none m h = none) (hw : Wk (mk (Lo n m t) ((n, none) :: (m, (lk none n h).map (Blk.ren n m)) :: Ha n m h)) s') : Wk (mk t h) s' :=
 .ren n m hne hm (by rw [Ad0 _ _ _ _ hne]; exact hw)
theorem Ac0 {t : List (Nat × SV)} {h : List (Nat × Option Blk)} {s' : FS} (k n sz : Nat) {z : Nat} (ht : lk .dead k t = .pv (.sl true z [])) (hs : 0 < sz) (hw : Wk (mk ((k, .os n) :: Gh n t) ((n, some (.row sz [])) :: D7 n h)) s') : Wk (mk t h) s' :=
 .nil k n z sz ht hs (by rw [Ks, H6, Ri]; exact hw)
theorem Ni {α : Type} {I : α → FS} {J : α → Prop} {m : α → Nat} {x : α} {s : FS} (y : α) (T : List (Nat × SV)) (H : List (Nat × Option Blk)) (hI : I y = mk T H) (hJ : J y) (hm : m y < m x) (h1 : Qc s T) (h2 : M3 s H) : ∃ y, J y ∧ m y < m x ∧ Wk s (I y) :=
 ⟨y, hJ, hm, hI ▸ Bi h1 h2⟩
theorem Ajc (n m x) : SV.ren n m (.pv x) = .pv x := (rfl)
theorem Ajd (n m a b c d) : SV.ren n m (.pi a b c d) = .pi a b c d := (rfl)
theorem r_p (n m k o) : SV.ren n m (.p k o) = if k = n then .p m o else if k = m then .dead else .p k o := (rfl)
theorem Aje (n m k) : SV.ren n m (.os k) = if k = n then .os m else if k = m then .dead else .os k := (rfl)
theorem Agt (n m l) : SV.ren n m (.tup l) = .tup (SV.renL n m l) := (rfl)
theorem Ajg (n m f l) : SV.ren n m (.fn f l) = .fn f (SV.renL n m l) := (rfl)
theorem Ad3 (n m) : SV.renL n m [] = [] := (rfl)
theorem Aaj (n m x l) : SV.renL n m (x :: l) = SV.ren n m x :: SV.renL n m l := (rfl)
theorem Ad1 (n m x) : Blk.ren n m (.var x) = .var (x.ren n m) := (rfl)
theorem Ad2 (n m a b) : Blk.ren n m (.row a b) = .row a b := (rfl)
theorem Wc (n m) : Lo n m [] = [] := (rfl)
theorem Tu (n m j x l) : Lo n m ((j, x) :: l) = (j, x.ren n m) :: Lo n m l := (rfl)
theorem Wd (n m) : Ha n m [] = [] := (rfl)
theorem Tw (n m j x l) : Ha n m ((j, some x) :: l) = (if j = m then (j, none) else (j, some (x.ren n m))) :: Ha n m l := (rfl)
theorem Tv (n m j l) : Ha n m ((j, none) :: l) = (j, none) :: Ha n m l := (rfl)
theorem Ae7 (p : List PV → Prop) : (∀ c, c ∈ ([] : List (List PV)) → p c) = True := by simp
theorem Abn (x l) (p : List PV → Prop) : (∀ c, c ∈ x :: l → p c) = (p x ∧ ∀ c, c ∈ l → p c) := by simp
theorem Ah1 (d : Nat) (p : Nat → Prop) : (∃ n, SV.os d = SV.os n ∧ p n) = p d := propext ⟨fun ⟨n, e, h⟩ => by cases e; exact h, fun h => ⟨d, rfl, h⟩⟩
theorem Afb (d : Nat) (z z' : SV) (p : Nat → Prop) : (∃ n, SV.tup [.os d, z] = SV.tup [.os n, z'] ∧ p n) = (z = z' ∧ p d) := propext ⟨fun ⟨n, e, h⟩ => by cases e; exact ⟨rfl, h⟩, fun ⟨e, h⟩ => ⟨d, by rw [e], h⟩⟩
theorem O7 (l : List UInt8) (n : Nat) : (Ad l).take n = Ad (l.take n) := by simp [Ad]
theorem O8 (l : List UInt8) (n : Nat) : (Ad l).drop n = Ad (l.drop n) := by simp [Ad]
attribute [go_sem] O8 O7 List.take_length Ae7 Abn Ah1 Afb List.length_cons List.length_nil Zk Adz Ajc Ajd r_p Aje Agt Ajg Ad3 Aaj Ad1 Ad2 Wc Tu Wd Tw Tv Tc M9 Aa8 Int.natCast_zero Zj Zi Adx Adw Ady Ad8 Ah5 Ah6 Ah7 Ah8 X8 Av Nat.mul_one Bool.false_xor Bool.true_xor
section slices
variable (E : Env)
attribute [go_sem] Nat.sub_zero
end slices
section own
variable {P : Program} {F : Fr} {N : Nat} {ρ : Nat → Value} {s : FS} {a : Act} {w w' : World} {K : KK} {V : View}
theorem Xr (hm : P.follows .mixedOrders = true) {f N' : Nat} {rs : List Rv} {c : C} (hf : Ds P f = some (N', rs, c)) {args : List SV} {h : Nat → Option Blk} {d : Nat} {sz : Nat} {es : List (List PV)} (hlen : args.length ≤ N')
 (hargs : A4 args = true) (hx : SV.closedL args = true ∨ ∀ c ∈ es, c.all PV.flat = true) (hrun : ∀ F, sx (env P F N') c (Vi rs fun y g => (∃ n, y = .os n ∧ g n = some (.row sz es)) ∨ ∃ z, y = .pv (.sl true z []) ∧ es = [] ∧ 0 < sz) (mk (D0 0 (Cd h args)) [])) :
 FunOk P f args h d (.os d) [.new d (.row sz es)] := by
 refine ⟨Cm hf, fun F N ρ s a w hR hh vs hc => ?_⟩;refine Calls.mono (C9 hm hf (h := h) hlen hargs Ln hrun hR hh hc) fun e w' he => ?_;obtain ⟨v, rfl, hg, N'', ρ', s', a', y, hR', hy, hyy⟩ := he;rcases hyy with ⟨n, rfl, hn⟩ | ⟨z, rfl, rfl, hsz⟩
 case inr =>
  simp only [Conc] at hy;have hv : ∃ base, v = .slice base 0 0 := by
   cases hy with
   | sl full sz es b cap cs bl off arr hcap hfull hsz ha hcs hel =>
     have := hfull rfl;simp at this;subst this;exact ⟨b, rfl⟩
  obtain ⟨base, rfl⟩ := hv;obtain ⟨h1, _⟩ := (hR.grew hg).new (Grew.refl w') d (.row sz []) (.slice base 0 0) (fun b hb => by cases base <;> simp [A1] at hb) (fun V' _ => ⟨base, 0, by rw [Ai]; rfl, Nat.le_refl _, hsz, by simp, fun h => absurd rfl h⟩);exact ⟨_, _, rfl, h1, Cz⟩
 simp only [Conc] at hy;obtain ⟨base, cap, g1, g2, g3, g4, g5⟩ := hR'.own n _ hn;have hown : ∀ b, A1 (ρ' n) b → w.heap.size ≤ b ∧ b < w'.heap.size := fun b hb => by
  have ho : Ar ρ' s'.h b := ⟨n, _, hn, hb⟩
  exact ⟨(hR'.may b ho).resolve_right id, hR'.lt ho⟩
 have hnew := hR.adopt hg d (.row sz es) (ρ' n) hown fun hV => by
  refine ⟨base, cap, by rw [Ai]; exact g1, g2, g3, g4, fun hcap => ?_⟩;obtain ⟨b, vs', ty, fr, k1, k2, k3, k4, k5, k6⟩ := g5 hcap;refine ⟨b, vs', ty, fr, k1, k2, k3, k4, k5, fun i c hi => ?_⟩;rcases hx with hx | hx
  · obtain ⟨e1, _, _⟩ := Br hx;rw [e1, Ee] at hR' k6;refine (k6 i c hi).mono (A6 fun b' c' ho hc' => ⟨fun hb' => ?_, hc'⟩);rcases hb' with ⟨m, z, hm1, hm2⟩ | hb'
    · by_cases hmd : m = d
      · subst hmd;rw [Ai] at hm2;exact ho (.inl ⟨n, _, hn, hm2⟩)
      · rw [Ao hmd] at hm2;simp only [FS.seth, FS.kill, hmd, if_false] at hm1;obtain ⟨z', hz', _⟩ := Option.map_eq_some_iff.1 hm1;exact ho (.inr (.inl ⟨m, z', hz', hm2⟩))
    · exact ho (.inr (.inr hb'))
  · exact Hv (hx c (List.mem_of_getElem? hi)) (k6 i c hi)
 refine ⟨v, _, rfl, hnew.1, ?_⟩;simp only [Conc];exact ⟨by rw [Ai]; exact hy.1, hy.2⟩
theorem Xw (n : Nat) (q : Prop) : (∃ z, SV.os n = SV.pv (.sl true z []) ∧ q) = False := by simp
attribute [go_sem] Xw false_or or_false Tn Aae Ab1 Ac7 Aba List.cons_append List.nil_append
end own
end Go.Proofs.Ytdikcfjpcgapaaa.Fw
namespace Go.Proofs.Ytdikcfjpcgapaaa.Fw
open Go.RowKit
variable {P : Program} {F : Fr} {N M : Nat} {ρ : Nat → Value} {s : FS} {a b : Act} {w w' : World} {V : View} {X : Vk}
def sh : Nat := 1000001
def gh : Nat := 1000000
theorem R1 : gh = D2 := rfl
theorem Rh : sh = D2 + 1 := rfl
attribute [irreducible] sh gh
def FS.dn (s : FS) : FS := ⟨fun n => s.t (n + sh), s.h⟩
def FS.enter (s : FS) (args : List SV) : FS := ⟨fun n => if n < D2 then lk .dead n (D0 0 args) else if n = gh then .pv (.i .i64 0) else s.t (n - sh), s.h⟩
def Ih : List Nat → List SV → List (Nat × SV)
 | p :: ps, x :: l => (p, x) :: Ih ps l
 | _, _ => []
def FS.round (s : FS) (ps : List Nat) (args : List SV) : FS := ⟨fun n => if n < D2 then lk (s.t (n + sh)) n (Ih ps args).reverse else if n = gh then .dead else s.t (n - sh), s.h⟩
def Dt (g : Int) : Option Code := if g = 0 then none else if g = 1 then some .ret else some (.exit (g - 2).toNat)
def Cv (fn : Nat) (tm : Array Value) (qs : Array Tmp) (as bd : Code) (D : Nat) (st : LoopState) (pe : Option Code) : Obj := .loop { state := st, pending := pe, fn, tmps := tm, params := qs, assign := as, body := bd, defers := D }
theorem Lq (w : World) (l : Nat) (o o' : Obj) : (w.putObj l o).putObj l o' = w.putObj l o' := by
 simp only [World.putObj, World.mk.injEq, and_true, true_and];apply Array.ext_getElem?;intro i;simp only [Array.getElem?_setIfInBounds, Array.size_setIfInBounds];by_cases h : l = i
 · simp [h]
 · simp [h]
theorem Pu {w : World} {l : Nat} {o : Obj} (h : w.heap[l]? = some o) : w.putObj l o = w := by
 have : w.heap.setIfInBounds l o = w.heap := by
  apply Array.ext_getElem?;intro i;simp only [Array.getElem?_setIfInBounds];by_cases e : l = i
  · subst e;obtain ⟨h1, h2⟩ := Array.getElem?_eq_some_iff.1 h;simp [h1, h2]
  · simp [e]
 unfold World.putObj;rw [this]
theorem RelR.turn {F1 F2 : Fr} {s' : FS} (h : RelR F1 M ρ s b w) (e0 : F2.w0 = F1.w0) (e1 : F2.M0 = F1.M0) (e2 : F2.hid = F1.hid) (eh : s'.h = s.h) (hs : a.tmps.size = N) (hd : a.defers = F2.defs) (ht : ∀ n, Conc (Ak w (F1.out ρ s.h)) ρ (s'.t n) (F2.val a n)) : RelR F2 N ρ s' a w := by
 have ho : F2.out ρ s.h = F1.out ρ s.h := by unfold Fr.out; rw [e2]
 refine ⟨⟨by rw [e0]; exact h.fr.os, by rw [e0]; exact h.fr.tape, by rw [e0]; exact h.fr.output, by rw [e0]; exact h.fr.size, by rw [e0, e1]; exact h.fr.block, by rw [e0, e1, e2]; exact h.fr.hid, by rw [e0, e1]; exact h.fr.tab⟩, by rw [eh, e0, e1]; exact h.may, by rw [eh, ho]; exact h.own, by rw [eh]; exact h.inj, by rw [eh, ho]; exact ht, hs, hd⟩
def Bz (F : Fr) (a : Act) (w0 : World) (B : Nat) (l : Nat) (o : LoopState → Option Code → Obj) (g : Int) : Fr :=
 ⟨w0.putObj l (o (if g = 0 then .ready else .done) (Dt g)), fun b => F.M0 b ∨ (F.w0.heap.size ≤ b ∧ b < B), F.hid, fun n => if n = gh then .int .i64 g else F.val a (n - sh), []⟩
theorem Kt (F a w0 B l o g) : (Bz F a w0 B l o g).val b gh = .int .i64 g := by
 unfold Fr.val;rw [if_neg (by have := R1; omega)];simp only [Bz, if_true]
theorem Oq (F a w0 B l o g) (n : Nat) : (Bz F a w0 B l o g).val b (n + sh) = F.val a n := by
 have h1 := R1;have h2 := Rh;rw [Fr.val, if_neg (by omega)];simp only [Bz];rw [if_neg (by omega), Nat.add_sub_cancel]
theorem Aa4 (F a w0 B l o g g') {n : Nat} (h : n ≠ gh) : (Bz F a w0 B l o g').val b n = (Bz F a w0 B l o g).val b n := by
 unfold Fr.val;split
 · rfl
 · simp only [Bz];rw [if_neg h, if_neg h]
structure ItCtx (P : Program) (N : Nat) (ps : List Nat) (ca cb : C) (l : Nat) (XI : Vk) : Prop where
 ctx : ∃ (F : Fr) (a : Act) (w0 : World) (B fn D : Nat) (qs : Array Tmp) (as bd : Code),
  (XI = fun F' => ∃ g : Int, 0 ≤ g ∧ F' = Bz F a w0 B l (Cv fn a.tmps qs as bd D) g) ∧ Aq P N as = some ca ∧ Aq P N bd = some cb ∧ qs.toList = ps ∧ (∀ p ∈ ps, p < N ∧ p < D2) ∧
  a.tmps.size = N ∧ B ≤ l ∧ l < w0.heap.size ∧ ¬ F.M0 l
theorem Up (ps : List (Nat × Value)) : ∀ (t : Array Value), (ps.foldl (fun t (p, v) => t.setIfInBounds p v) t).size = t.size := by
 induction ps with
 | nil => intro t; rfl
 | cons p ps ih => intro t; rw [List.foldl_cons, ih]; simp
theorem Pw {x0 : SV} : ∀ {ps : List Nat} {args : List SV} {vs : List Value} {t : Array Value} {n : Nat}, (∀ p ∈ ps, p < t.size) → ConcL V ρ args vs → ps.length = vs.length → ∀ (l : List (Nat × SV)),
 Conc V ρ (lk x0 n l) (t.getD n undef) → Conc V ρ (lk x0 n ((Ih ps args).reverse ++ l)) (((ps.zip vs).foldl (fun t (p, v) => t.setIfInBounds p v) t).getD n undef)
 | [], args, vs, t, n, _, hc, hl, l, h => by simpa [Ih] using h
 | p :: ps, args, vs, t, n, hp, hc, hl, l, h => by
   cases args with
   | nil => simp only [ConcL] at hc; subst hc; simp at hl
   | cons x args =>
     simp only [ConcL] at hc;obtain ⟨v, us, rfl, h1, h2⟩ := hc;have := Pw (x0 := x0) (ps := ps) (args := args) (vs := us) (t := t.setIfInBounds p v) (n := n) (fun q hq => by simpa using hp q (List.mem_cons_of_mem _ hq)) h2 (by simpa using hl) ((p, x) :: l) (by
      simp only [lk];rw [Array.getD_eq_getD_getElem?, Array.getElem?_setIfInBounds];by_cases e : n = p
      · subst e; simp [hp n List.mem_cons_self, h1]
      · rw [if_neg e, if_neg (Ne.symm e)];rw [Array.getD_eq_getD_getElem?] at h; exact h)
     simpa [Ih] using this
theorem G6 : ∀ {l : List SV} {vs : List Value}, ConcL V ρ l vs → vs.length = l.length
 | [], vs, h => by simp only [ConcL] at h; subst h; rfl
 | x :: l, vs, h => by
   simp only [ConcL] at h;obtain ⟨v, us, rfl, _, h⟩ := h;simp [G6 h]
def asQ (K : FS → Prop) : A5
 | .normal, s => K s
 | _, _ => False
def Acx (K : KK) : A5
 | .normal, s => K (.pv (.b true)) [.set s.dn.t s.dn.h]
 | .ret, s => K (.pv (.b false)) [.set (s.dn.set gh (.pv (.i .i64 1))).t s.dn.h]
 | .exit k, s => K (.pv (.b false)) [.set (s.dn.set gh (.pv (.i .i64 (k + 2 : Nat)))).t s.dn.h]
def Rz (s : FS) : Option SV → FS
 | some y => s.set gh y
 | none => s
theorem Rj {FB : Fr} {s2 : FS} {a3 : Act} {F : Fr} {a : Act} {w0 : World} {B l : Nat} {o : LoopState → Option Code → Obj} {g g' : Int} {x : Option SV} (h : RelR FB N ρ s2 a3 w)
 (e0 : FB.w0 = w0.putObj l (o (if g' = 0 then .ready else .done) (Dt g'))) (e1 : FB.M0 = (Bz F a w0 B l o g).M0) (e2 : FB.hid = F.hid) (e3 : FB.x = fun n => if sh ≤ n then (Bz F a w0 B l o g).val b (n - sh) else undef)
 (hb : b.tmps.size = M) (hbd : b.defers = []) (hx : (g' = g ∧ x = none) ∨ x = some (.pv (.i .i64 g'))) :
 RelR (Bz F a w0 B l o g') M ρ (Rz s2.dn x) b w := by
 have ho : (Bz F a w0 B l o g').out ρ s2.h = FB.out ρ s2.h := by
  unfold Fr.out;rw [e2]; rfl
 have hh : ∀ n, (Rz s2.dn x).h n = s2.h n := fun n => by cases x <;> rfl
 have hH : (Rz s2.dn x).h = s2.h := funext hh;refine ⟨⟨?_, ?_, ?_, ?_, ?_, ?_, ?_⟩, ?_, ?_, ?_, fun n => ?_, hb, hbd⟩
 · rw [h.fr.os, e0]; rfl
 · rw [h.fr.tape, e0]; rfl
 · rw [h.fr.output, e0]; rfl
 · have := h.fr.size; rw [e0] at this; exact this
 · have := h.fr.block; rw [e0, e1] at this; exact this
 · have := h.fr.hid; rw [e0, e1, e2] at this; exact this
 · have := h.fr.tab; rw [e0, e1] at this; exact this
 · rw [hH]; have := h.may; rw [e0, e1] at this; exact this
 · rw [hH, ho]; exact h.own
 · rw [hH]; exact h.inj
 · rw [hH, ho];have key : n ≠ gh ∨ x = none → Conc (Ak w (FB.out ρ s2.h)) ρ (s2.dn.t n) ((Bz F a w0 B l o g').val b n) := fun hn => by
    have := h.tmps (n + sh);have hge : ¬ n + sh < D2 := by have := Rh; omega
    rw [Fr.val, if_neg hge, e3] at this;simp only [Nat.add_sub_cancel, Nat.le_add_left, if_true] at this;have hv : (Bz F a w0 B l o g').val b n = (Bz F a w0 B l o g).val b n := by
     by_cases e : n = gh
     · rcases hn with hn | hn
       · exact absurd e hn
       · rcases hx with ⟨rfl, _⟩ | hx
         · rfl
         · rw [hn] at hx; cases hx
     · exact Aa4 _ _ _ _ _ _ _ _ e
    rw [hv]; exact this
   cases x with
   | none => exact key (.inr rfl)
   | some y =>
     simp only [Rz, FS.set];by_cases hn : n = gh
     · subst hn;rw [if_pos rfl];rcases hx with ⟨_, hx⟩ | hx
       · cases hx
       · cases hx;rw [Kt];simp only [Conc];exact .i _ _
     · rw [if_neg hn];exact key (.inl hn)
theorem Acz (hm : P.follows .mixedOrders = true) {ps : List Nat} {ca cb : C} {l : Nat} {XI : Vk} (hc : ItCtx P N ps ca cb l XI) {args : List SV} {K : KK} (hg : s.t gh = .pv (.i .i64 0)) (hlen : args.length = ps.length)
 (hrun : ∀ XA XB, sx (Eb P (some l) XA N) ca (asQ fun s1 => sx (Eb P (some l) XB N) cb (Acx K) s1) (s.round ps args)) : (Eb P none XI M).yld l args K s := by
 obtain ⟨F, a, w0, B, fn, D, qs, as, bd, rfl, hca, hcb, hqs, hps, hsz, hBl, hl0, hM⟩ := hc;show Zc P _ M l args K s;rintro F' ρ b w ⟨g, hg0, rfl⟩ hR vs hvs;have eg : g = 0 := by
  have := hR.tmps gh;rw [hg, Kt] at this;simp only [Conc] at this;generalize hv : Value.int .i64 g = v at this;cases this;cases hv; rfl
 subst eg;have hO : ∀ st pe, ∃ r : Loop, Cv fn a.tmps qs as bd D st pe = .loop r ∧ r = { state := st, pending := pe, fn, tmps := a.tmps, params := qs, assign := as, body := bd, defers := D } := fun st pe => ⟨_, rfl, rfl⟩
 have hlM : ¬ (F.M0 l ∨ (F.w0.heap.size ≤ l ∧ l < B)) := fun h => h.elim hM fun h => by omega
 have hlw : l < (w0.putObj l (Cv fn a.tmps qs as bd D .ready none)).heap.size := by simpa using hl0
 have hrec : w.heap[l]? = some (Cv fn a.tmps qs as bd D .ready none) := by
  rw [hR.fr.block l hlw hlM];exact World.putObj_heap_same hl0
 have hy := run_yield (P := P) (args := (⟨vs⟩ : Array Value)) hrec (by
  have := G6 hvs;show vs.length = qs.size;rw [this, hlen, ← hqs]; simp)
 refine ⟨fn, _, as, bd, hy, roundIn_of_wpIn (F := Gd none) trivial ?_⟩;simp only
 let FA : Fr := ⟨w0.putObj l (Cv fn a.tmps qs as bd D .ready none), fun b => F.M0 b ∨ (F.w0.heap.size ≤ b ∧ b < B), F.hid, fun n => if sh ≤ n then (Bz F a w0 B l (Cv fn a.tmps qs as bd D) 0).val b (n - sh) else undef, []⟩
 have hRA : RelR FA N ρ (s.round ps args) { tmps := (qs.zip (⟨vs⟩ : Array Value)).foldl (fun t (p, v) => t.setIfInBounds p v) a.tmps, defers := [] } w := by
  refine RelR.turn hR rfl rfl rfl rfl ?_ rfl fun n => ?_;rotate_left
  · have e : (qs.zip (⟨vs⟩ : Array Value)).foldl (fun t (p, v) => t.setIfInBounds p v) a.tmps = (ps.zip vs).foldl (fun t (p, v) => t.setIfInBounds p v) a.tmps := by
     rw [← Array.foldl_toList, Array.toList_zip, hqs]
    unfold Fr.val;simp only [FS.round];by_cases h1 : n < D2
    · rw [if_pos h1, if_pos h1, e];have := Pw (x0 := s.t (n + sh)) (ps := ps) (t := a.tmps) (n := n) (fun p hp => by rw [hsz]; exact (hps p hp).1) hvs (by rw [G6 hvs, hlen]) [] (by
       simp only [lk];have := hR.tmps (n + sh);rw [Oq, Fr.val_lt h1] at this;exact this)
      rw [List.append_nil] at this;exact this
    · rw [if_neg h1, if_neg h1];by_cases h2 : n = gh
      · rw [if_pos h2]; simp only [Conc]
      · rw [if_neg h2];have h3 : sh ≤ n := by have := R1; have := Rh; omega
        have e4 : FA.x n = (Bz F a w0 B l (Cv fn a.tmps qs as bd D) 0).val b (n - sh) := by
         show (if sh ≤ n then _ else undef) = _;rw [if_pos h3]
        rw [e4];exact hR.tmps (n - sh)
  · show ((qs.zip (⟨vs⟩ : Array Value)).foldl (fun t (p, v) => t.setIfInBounds p v) a.tmps).size = N;rw [← Array.foldl_toList, Up]; exact hsz
 refine wpIn_mono (Ga (r := some l) (X := fun F => F = FA) hm hca (hrun _ (fun F => F = { FA with w0 := FA.w0.putObj l (Cv fn a.tmps qs as bd D .busy none) })) ⟨FA, rfl, ρ, hRA⟩) fun e a1 w1 he => ?_;cases e with
 | normal =>
   obtain ⟨s1, ⟨_, rfl, ρ1, hR1⟩, hrun2⟩ := he;have hrec1 : w1.heap[l]? = some (Cv fn a.tmps qs as bd D .ready none) := by
    rw [hR1.fr.block l hlw hlM];exact World.putObj_heap_same hl0
   refine ⟨_, run_beginRound hrec1 rfl, ?_⟩;have hR2 := hR1.obj (Cv fn a.tmps qs as bd D .busy none) hrec1 rfl hlw hlM;refine wpIn_mono (Ga (r := some l) (X := fun F => F = { FA with w0 := FA.w0.putObj l (Cv fn a.tmps qs as bd D .busy none) }) hm hcb hrun2 ⟨_, rfl, ρ1, hR2⟩) fun e a3 w3 he => ?_;have fin : ∀ (s2 : FS) (ρ2 : Nat → Value) (g' : Int) (x : Option SV) (jump : Option Code), RelR { FA with w0 := FA.w0.putObj l (Cv fn a.tmps qs as bd D .busy none) } N ρ2 s2 a3 w3 → jump = Dt g' → (jump.isNone = true ↔ g' = 0) → ((g' = 0 ∧ x = none) ∨ x = some (.pv (.i .i64 g'))) → 0 ≤ g' →
    K (.pv (.b jump.isNone)) [.set (Rz s2.dn x).t s2.dn.h] →
    ∃ v w', (Instr.endRound l jump).run P w3 = .ok v w' ∧ ∃ v' x u F' ρ', Ending.returned v = .returned v' ∧ K x u ∧ (∃ g : Int, 0 ≤ g ∧ F' = Bz F a w0 B l (Cv fn a.tmps qs as bd D) g) ∧ RelR F' M ρ' (s.hup u) b w' ∧ Conc (vw F' w' ρ' (s.hup u)) ρ' x v' := by
    intro s2 ρ2 g' x jump hR3 hj hji hx hg' hK;have hrec3 : w3.heap[l]? = some (Cv fn a.tmps qs as bd D .busy none) := by
     rw [hR3.fr.block l (by simpa [FA] using hlw) hlM];exact World.putObj_heap_same hlw
    have hst : (if jump.isNone then LoopState.ready else .done) = (if g' = 0 then .ready else .done) := by
     by_cases h : g' = 0
     · rw [if_pos h, if_pos (hji.2 h)]
     · rw [if_neg h, if_neg (fun e => h (hji.1 e))]
    refine ⟨_, _, run_endRound jump hrec3, _, .pv (.b jump.isNone), _, Bz F a w0 B l (Cv fn a.tmps qs as bd D) g', ρ2, rfl, hK, ⟨g', hg', rfl⟩, ?_, ?_⟩
    · have hR4 := hR3.obj (Cv fn a.tmps qs as bd D (if g' = 0 then .ready else .done) (Dt g')) hrec3 rfl (by simpa [FA] using hlw) hlM;have hb := Rj (M := M) (b := b) (F := F) (a := a) (w0 := w0) (B := B) (l := l) (o := Cv fn a.tmps qs as bd D) (g := 0) (g' := g') (x := x) hR4 (by simp only [FA, Lq]) rfl rfl rfl hR.size hR.defers hx;have ew : w3.putObj l (.loop { state := if jump.isNone then .ready else .done, pending := jump, fn, tmps := a.tmps, params := qs, assign := as, body := bd, defers := D }) = w3.putObj l (Cv fn a.tmps qs as bd D (if g' = 0 then .ready else .done) (Dt g')) := by
       rw [hst, hj]; rfl
      show RelR _ M ρ2 (s.hup [.set _ _]) b (w3.putObj l (.loop { state := if jump.isNone then .ready else .done, pending := jump, fn, tmps := a.tmps, params := qs, assign := as, body := bd, defers := D }));rw [ew];have eh : s.hup [.set (Rz s2.dn x).t s2.dn.h] = (Rz s2.dn x) := by cases x <;> rfl
      rw [eh]; exact hb
    · simp only [Conc]; exact .b _
   cases e with
   | normal =>
     obtain ⟨s2, ⟨_, rfl, ρ2, hR3⟩, hK⟩ := he;exact fin s2 ρ2 0 none none hR3 rfl (by simp) (.inl ⟨rfl, rfl⟩) (by omega) hK
   | ret =>
     obtain ⟨s2, ⟨_, rfl, ρ2, hR3⟩, hK⟩ := he;exact fin s2 ρ2 1 (some (.pv (.i .i64 1))) (some .ret) hR3 rfl (by simp) (.inr rfl) (by omega) hK
   | exit k =>
     obtain ⟨s2, ⟨_, rfl, ρ2, hR3⟩, hK⟩ := he;refine fin s2 ρ2 ((k + 2 : Nat) : Int) (some (.pv (.i .i64 ((k + 2 : Nat) : Int)))) (some (.exit k)) hR3 ?_ (by simp; omega) (.inr rfl) (by omega) hK;unfold Dt;rw [if_neg (by omega), if_neg (by omega)];congr 2; omega
   | goto _ => exact he.elim
   | panic _ => exact he.elim
   | outgrown => exact he.elim
 | exit id => obtain ⟨_, _, h⟩ := he; exact h.elim
 | ret => obtain ⟨_, _, h⟩ := he; exact h.elim
 | goto _ => exact he.elim
 | panic _ => exact he.elim
 | outgrown => exact he.elim
end Go.Proofs.Ytdikcfjpcgapaaa.Fw
namespace Go.Proofs.Ytdikcfjpcgapaaa.Fw
open Go.RowKit
variable {P : Program} {F : Fr} {N M : Nat} {ρ : Nat → Value} {s : FS} {a b : Act} {w w' : World} {V : View} {X : Vk}
def itK (Q : A5) (s : FS) : SV → Prop
 | .pv (.i _ g) => if g = 0 then Q .normal s.dn else if g = 1 then Q .ret s.dn else Q (.exit (g - 2).toNat) s.dn
 | _ => False
def itQ (Q : A5) : A5
 | .normal, s => itK Q s (s.t gh)
 | .ret, s => itK Q s (s.t gh)
 | _, _ => False
theorem Qa (F a w0 B l o g) (h : Nat → Option Blk) : (Bz F a w0 B l o g).out ρ h = F.out ρ h := rfl
theorem G4 (F a w0 B l o g) (b) : (Bz F a w0 B l o g).M0 b = (F.M0 b ∨ (F.w0.heap.size ≤ b ∧ b < B)) := rfl
theorem Aa3 (F a w0 B l o) (h : w0.heap[l]? = some (o .ready none)) : (Bz F a w0 B l o 0).w0 = w0 := by
 show w0.putObj l (o (if (0 : Int) = 0 then .ready else .done) (Dt 0)) = w0;exact Pu h
theorem Adp (hm : P.follows .mixedOrders = true) {F0 : Fr} {f : Nat} {cap : List SV} {ps : List Nat} {ca cb cf : C} {Q : A5} (hf : Ds P f = some (M, [], cf)) (hlen : cap.length + 1 ≤ M)
 (hrun : ∀ l XI, ItCtx P N ps ca cb l XI → sx (Eb P none XI M) cf (itQ Q) (s.enter (.fn (.yield l) [] :: cap))) : (Eb P none (Desc F0) N).rng f cap ps ca cb Q s := by
 show Acy P none (Desc F0) N f cap ps ca cb Q s;intro as bd g qs hca hcb hqs hps F ρ a w hd hR hg;obtain ⟨fn, code, h1, h2, h3, h4, h5, h6⟩ := Kx hf;have hMb := Th hf;subst h4;simp only [Conc] at hg;obtain ⟨cv, hgv, hcap⟩ := hg;refine wpIn_rangeFunc fun fn' _ => ?_;obtain ⟨O, hO⟩ : ∃ O, O = Cv fn' a.tmps qs as bd w.heap.size := ⟨_, rfl⟩
 obtain ⟨W1, hW1⟩ : ∃ W1, (w.alloc (.deferred (some []))).alloc (O .ready none) = W1 := ⟨_, rfl⟩
 have hl1 : W1.heap[w.heap.size + 1]? = some (O .ready none) := by
  rw [← hW1]; have := World.alloc_heap_new (w.alloc (.deferred (some []))) (O .ready none); rwa [World.size_alloc] at this
 have hD1 : W1.heap[w.heap.size]? = some (.deferred (some [])) := by
  rw [← hW1]; exact (Below.heap_alloc _ _ _ (by simp)).trans (World.alloc_heap_new w _)
 have hbel : Below w.heap.size w W1 := by
  rw [← hW1]; exact (((Below.refl _ w).alloc (Nat.le_refl _) _).alloc (by simp) _)
 have hsz1 : w.heap.size + 1 < W1.heap.size := (Array.getElem?_eq_some_iff.1 hl1).1;have hgrew := Grew.of_below hbel;have hR1 := hR.grew hgrew;have hMw : ∀ b, F.M0 b → b < w.heap.size := fun b hb => Nat.lt_of_lt_of_le (hd.m0 b hb) hR.fr.size;have hent : I2 P f := Cm hf;refine ⟨w.heap.size + 1, [{ target := .collected w.heap.size, args := #[] }], W1, { target := .fn (.func f) ⟨cv⟩, args := #[.func (.yield (w.heap.size + 1)) #[] #[]] }, W1, f,
  (#[Value.func (.yield (w.heap.size + 1)) #[] #[]] : Array Value) ++ ⟨cv⟩, W1, ?_, ?_, fun _ _ => trivial, ?_, fun h => (nomatch h), ?_⟩
 · rw [← hW1, hO]; exact run_enterLoop_outer _ _ _ _ _
 · simp only [resolve, hgv];simp [go_sem]
 · simp only [invoke];exact Ic hent
 have hctx : ItCtx P N ps ca cb (w.heap.size + 1) (fun F' => ∃ g : Int, 0 ≤ g ∧ F' = Bz F a W1 w.heap.size (w.heap.size + 1) O g) :=
  ⟨F, a, W1, w.heap.size, fn', w.heap.size, qs, as, bd, by rw [hO], hca, hcb, hqs, hps, hR.size, by omega, hsz1, fun h => by have := hMw _ h; omega⟩
 have hl0 : F.w0.heap.size ≤ w.heap.size := hR.fr.size;have hRI : RelR (Bz F a W1 w.heap.size (w.heap.size + 1) O 0) fn.ntmps ρ (s.enter (.fn (.yield (w.heap.size + 1)) [] :: cap)) { tmps := ((#[Value.func (.yield (w.heap.size + 1)) #[] #[]] : Array Value) ++ (⟨cv⟩ : Array Value)) ++ Array.replicate (fn.ntmps - ((#[Value.func (.yield (w.heap.size + 1)) #[] #[]] : Array Value) ++ (⟨cv⟩ : Array Value)).size) undef, defers := [] } W1 := by
  have hcl := G6 hcap;refine ⟨?_, fun b hb => ?_, ?_, hR1.inj, fun n => ?_, by simp; omega, rfl⟩
  · have e := Aa3 F a W1 w.heap.size (w.heap.size + 1) O hl1;refine ⟨by rw [e], by rw [e], by rw [e], by rw [e]; exact Nat.le_refl _, fun b _ _ => by rw [e], fun b hb => ?_, ⟨by rw [e]; exact hR1.tabW, fun p hp hm => by
     rw [G4] at hm;rcases hm with hm | hm
     · exact hR.fr.tab.2 p hp hm
     · have := C8 (hR.fr.tab.1 p hp); omega⟩⟩
    rw [e, G4];have := hR.fr.hid b hb;exact ⟨by omega, fun h => h.elim this.2 fun h => by omega⟩
  · rw [G4];rcases hR.may b hb with h | h
    · exact .inr (.inr ⟨h, hR.lt hb⟩)
    · exact .inr (.inl h)
  · rw [Qa]; exact hR1.own
  · rw [Qa];show Conc _ ρ (if n < D2 then _ else if n = gh then _ else _) _;by_cases hn : n < D2
    · rw [if_pos hn, Fr.val_lt hn];have hcv : ConcL (vw F W1 ρ s) ρ (.fn (.yield (w.heap.size + 1)) [] :: cap) (.func (.yield (w.heap.size + 1)) #[] #[] :: cv) := by
       simp only [ConcL];exact ⟨_, _, rfl, by simp only [Conc, ConcL]; exact ⟨[], rfl, rfl⟩, hcap.mono (hR.le_of_grew hgrew)⟩
      have := G7 0 n hcv;simp only [Nat.zero_le, if_true, Nat.sub_zero] at this;have he : (((#[Value.func (.yield (w.heap.size + 1)) #[] #[]] : Array Value) ++ (⟨cv⟩ : Array Value)) ++ Array.replicate (fn.ntmps - ((#[Value.func (.yield (w.heap.size + 1)) #[] #[]] : Array Value) ++ (⟨cv⟩ : Array Value)).size) undef).getD n undef = ((Value.func (.yield (w.heap.size + 1)) #[] #[] :: cv)[n]?).getD undef := by
       have ea : ((#[Value.func (.yield (w.heap.size + 1)) #[] #[]] : Array Value) ++ (⟨cv⟩ : Array Value)) = (⟨.func (.yield (w.heap.size + 1)) #[] #[] :: cv⟩ : Array Value) := Array.toList_inj.1 (by simp);rw [ea, Array.getD_eq_getD_getElem?];by_cases hn : n < (Value.func (.yield (w.heap.size + 1)) #[] #[] :: cv).length
       · rw [Array.getElem?_append_left (by simpa using hn)]; simp
       · rw [Array.getElem?_append_right (by simpa using hn)];rw [List.getElem?_eq_none (by omega)];simp only [Array.getElem?_replicate, Option.getD_none];split <;> rfl
      rw [he]; exact this
    · rw [if_neg hn];by_cases h2 : n = gh
      · rw [if_pos h2, h2, Kt]; simp only [Conc]; exact .i _ _
      · rw [if_neg h2];have h3 : n = (n - sh) + sh := by have := R1; have := Rh; omega
        have e4 : (Bz F a W1 w.heap.size (w.heap.size + 1) O 0).val { tmps := ((#[Value.func (.yield (w.heap.size + 1)) #[] #[]] : Array Value) ++ (⟨cv⟩ : Array Value)) ++ Array.replicate (fn.ntmps - ((#[Value.func (.yield (w.heap.size + 1)) #[] #[]] : Array Value) ++ (⟨cv⟩ : Array Value)).size) undef, defers := [] } n = F.val a (n - sh) := by
         conv => lhs; rw [h3]
         exact Oq _ _ _ _ _ _ _ _
        rw [e4];exact hR1.tmps (n - sh)
 refine callsIn_of_wp (F := Gd none) (n := 0 - 1) h1 h3 trivial (wpIn_mono (n := 0 - 1) (Ga hm h6 (hrun _ _ hctx) ⟨_, ⟨0, by omega, rfl⟩, ρ, hRI⟩) fun e a' w' he => ?_);have hres : ∀ (F' : Fr) (ρ' : Nat → Value) (s' : FS), RelR F' fn.ntmps ρ' s' a' w' → ∃ v, (results fn a'.tmps).run P w' = .ok v w' := fun F' ρ' s' hR' => by
  obtain ⟨l, v, _, _, k3⟩ := J4 (P := P) (K := fun _ => True) hR' h5 trivial;exact ⟨v, k3⟩
 have fin : ∀ (s' : FS), RelX (fun F' => ∃ g : Int, 0 ≤ g ∧ F' = Bz F a W1 w.heap.size (w.heap.size + 1) O g) fn.ntmps s' a' w' → itK Q s' (s'.t gh) → a'.defers = [] ∧ ∃ v, (results fn a'.tmps).run P w' = .ok v w' ∧
  rangePost (Gd none) 0 P (w.heap.size + 1) (I1 (Desc F0) N Q) { a with defers := [{ target := .collected w.heap.size, args := #[] }] ++ a.defers } (.returned v) w' := by
  rintro s' ⟨_, ⟨g, hg0, rfl⟩, ρ', hR'⟩ hq;obtain ⟨v, hv⟩ := hres _ _ _ hR';refine ⟨hR'.defers, v, hv, ?_⟩;have hlM : ¬ (Bz F a W1 w.heap.size (w.heap.size + 1) O g).M0 (w.heap.size + 1) := by
   rw [G4];rintro (h | h)
   · have := hMw _ h; omega
   · omega
  have hlt : w.heap.size + 1 < (Bz F a W1 w.heap.size (w.heap.size + 1) O g).w0.heap.size := by
   show _ < (W1.putObj _ _).heap.size;rw [World.putObj_size]; exact hsz1
  have hrec : w'.heap[w.heap.size + 1]? = some (O (if g = 0 then .ready else .done) (Dt g)) := by
   rw [hR'.fr.block _ hlt hlM];exact World.putObj_heap_same hsz1
  have hend := run_endLoop (P := P) (w := w') (l := w.heap.size + 1) (r := { state := if g = 0 then .ready else .done, pending := Dt g, fn := fn', tmps := a.tmps, params := qs, assign := as, body := bd, defers := w.heap.size }) (by rw [hrec, hO]; rfl) (by simp only; split <;> simp);refine ⟨Dt g, _, hend, ?_⟩;obtain ⟨oe, hoe⟩ : ∃ oe : Obj, oe = .loop { state := .exhausted, pending := Dt g, fn := fn', tmps := a.tmps, params := qs, assign := as, body := bd, defers := w.heap.size } := ⟨_, rfl⟩
  have hR2 := hR'.obj oe hrec (by rw [hO]; rfl) hlt hlM;have ew0 : (Bz F a W1 w.heap.size (w.heap.size + 1) O g).w0.putObj (w.heap.size + 1) oe = W1.putObj (w.heap.size + 1) oe := Lq _ _ _ _;have hR3 : RelR ⟨W1.putObj (w.heap.size + 1) oe, (Bz F a W1 w.heap.size (w.heap.size + 1) O g).M0, F.hid, F.x, [{ target := .collected w.heap.size, args := #[] }] ++ F.defs⟩ N ρ' s'.dn { a with defers := [{ target := .collected w.heap.size, args := #[] }] ++ a.defers } (w'.putObj (w.heap.size + 1) oe) := by
   refine RelR.turn hR2 ew0.symm rfl rfl rfl hR.size (by show _ ++ a.defers = _ ++ F.defs; rw [hR.defers]) fun n => ?_;have := hR2.tmps (n + sh);have e5 : ({ Bz F a W1 w.heap.size (w.heap.size + 1) O g with w0 := (Bz F a W1 w.heap.size (w.heap.size + 1) O g).w0.putObj (w.heap.size + 1) oe } : Fr).val a' (n + sh) = F.val a n := Oq F a W1 w.heap.size (w.heap.size + 1) O g n;rw [e5] at this;exact this
  have hdesc : Desc F0 ⟨W1.putObj (w.heap.size + 1) oe, (Bz F a W1 w.heap.size (w.heap.size + 1) O g).M0, F.hid, F.x, [{ target := .collected w.heap.size, args := #[] }] ++ F.defs⟩ := by
   have hb := hd.base;have hW : ∀ b, b < w.heap.size → (W1.putObj (w.heap.size + 1) oe).heap[b]? = w.heap[b]? := fun b hlt => by
    rw [World.putObj_heap_other (by omega)]; exact hgrew.block b hlt
   have hs1 : (W1.putObj (w.heap.size + 1) oe).heap.size = W1.heap.size := World.putObj_size;refine ⟨⟨?_, ?_, ?_, ?_, fun b hlt hm => ?_, hb.hid, hb.tab⟩, fun b h => ?_, fun b h => ?_, hd.hid, hd.x, ⟨w.heap.size, rfl, ?_, ?_, ?_, ?_, ?_⟩, ?_⟩
   · exact (hgrew.os.trans hR.fr.os).trans hb.os
   · exact (hgrew.tape.trans hR.fr.tape).trans hb.tape
   · exact (hgrew.output.trans hR.fr.output).trans hb.output
   · show _ ≤ (W1.putObj (w.heap.size + 1) oe).heap.size;rw [hs1]; have := hb.size; omega
   · show (W1.putObj (w.heap.size + 1) oe).heap[b]? = _;have h8 := hb.size;rw [hW b (by omega), hR.fr.block b (by omega) fun e => ?_]
     · exact hb.block b hlt hm
     · rcases hd.may b (.inr e) with h9 | h9
       · omega
       · exact hm h9
   · show b < (W1.putObj (w.heap.size + 1) oe).heap.size;rw [hs1];rcases h with h | h
     · have := hMw b h; omega
     · omega
   · have h' : (W1.putObj (w.heap.size + 1) oe).heap.size ≤ b ∨ (F.M0 b ∨ (F.w0.heap.size ≤ b ∧ b < w.heap.size)) := h;rw [hs1] at h';have h8 := hb.size;rcases h' with h | h | h
     · exact .inl (by omega)
     · exact hd.may b (.inr h)
     · exact .inl (by omega)
   · have := hb.size; omega
   · show _ < (W1.putObj (w.heap.size + 1) oe).heap.size;rw [hs1]; omega
   · rw [G4];rintro (h | h)
     · have := hMw _ h; omega
     · omega
   · show (W1.putObj (w.heap.size + 1) oe).heap[w.heap.size]? = _;rw [World.putObj_heap_other (by omega)]; exact hD1
   · have hmk := hd.marks;intro e he;clear hR3 hR2 hR hR1 hRI hR';generalize F.defs = ds at hmk he
     induction ds with
     | nil => cases he
     | cons d ds ih =>
       obtain ⟨⟨E, rfl, _, k2, _⟩, hmk⟩ := hmk;rcases List.mem_cons.1 he with rfl | he
       · intro e;simp only [Target.collected.injEq] at e;omega
       · exact ih hmk he
   · have hbl := hR.fr.block;have key : ∀ (FF : Fr), FF.w0 = W1.putObj (w.heap.size + 1) oe → FF.M0 = (Bz F a W1 w.heap.size (w.heap.size + 1) O g).M0 → ∀ ds, Q5 F0 F ds → Q5 F0 FF ds := fun FF f1 f2 ds hmk => by
      induction ds with
      | nil => trivial
      | cons d ds ih =>
        obtain ⟨⟨E, rfl, k1, k2, k3, k4, k5⟩, hmk⟩ := hmk;refine ⟨⟨E, rfl, k1, ?_, ?_, ?_, k5⟩, ih hmk⟩
        · rw [f1, hs1]; omega
        · rw [f2, G4];rintro (h | h)
          · exact k3 h
          · omega
        · rw [f1, hW E (by omega), hbl E k2 k3]; exact k4
     exact key ⟨W1.putObj (w.heap.size + 1) oe, (Bz F a W1 w.heap.size (w.heap.size + 1) O g).M0, F.hid, F.x, [{ target := .collected w.heap.size, args := #[] }] ++ F.defs⟩ rfl rfl _ hd.marks
  have hghv : ∃ k, s'.t gh = .pv (.i k g) := by
   have := hR'.tmps gh;rw [Kt] at this;generalize s'.t gh = z at hq this;unfold itK at hq;split at hq
   · rename_i k g';simp only [Conc] at this;cases this;exact ⟨_, rfl⟩
   · exact hq.elim
  obtain ⟨k, hk⟩ := hghv;rw [hk] at hq;simp only [itK] at hq;rw [← hoe];have hrel : RelX (Desc F0) N s'.dn { a with defers := [{ target := .collected w.heap.size, args := #[] }] ++ a.defers } (w'.putObj (w.heap.size + 1) oe) := ⟨_, hdesc, ρ', hR3⟩
  unfold Dt;by_cases e0 : g = 0
  · rw [if_pos e0] at hq ⊢;exact ⟨s'.dn, hrel, hq⟩
  · rw [if_neg e0] at hq ⊢;by_cases e1 : g = 1
    · rw [if_pos e1] at hq ⊢;exact wpIn_ret ⟨s'.dn, hrel, hq⟩
    · rw [if_neg e1] at hq ⊢;exact wpIn_exit ⟨s'.dn, hrel, hq⟩
 cases e with
 | normal => obtain ⟨s', h, hq⟩ := he; exact fin s' h hq
 | ret => obtain ⟨s', h, hq⟩ := he; exact fin s' h hq
 | exit id => obtain ⟨_, _, h⟩ := he; exact h.elim
 | goto _ => exact he.elim
 | panic _ => exact he.elim
 | outgrown => exact he.elim
end Go.Proofs.Ytdikcfjpcgapaaa.Fw
namespace Go.Proofs.Ytdikcfjpcgapaaa.Fw
open Go.RowKit
def Vl : List (Nat × SV) → List (Nat × SV)
 | [] => []
 | (j, x) :: l => (j + sh, x) :: Vl l
def Uw : List (Nat × SV) → List (Nat × SV)
 | [] => []
 | (j, x) :: l => if sh ≤ j then (j - sh, x) :: Uw l else Uw l
def Hr : List (Nat × SV) → List (Nat × SV)
 | [] => []
 | (j, x) :: l => if j < D2 then (j, x) :: Hr l else Hr l
theorem G2 {α : Type} (d : α) (n : Nat) : ∀ (l m : List (Nat × α)), lk d n (l ++ m) = lk (lk d n m) n l
 | [], m => rfl
 | (j, x) :: l, m => by simp only [List.cons_append, lk, G2 d n l m]
theorem Kq {α : Type} (d : α) (n : Nat) : ∀ (l : List (Nat × α)), (∀ p ∈ l, p.1 ≠ n) → lk d n l = d
 | [], _ => rfl
 | (j, x) :: l, h => by
   simp only [lk];rw [if_neg (fun e => h (j, x) List.mem_cons_self e.symm)];exact Kq d n l fun p hp => h p (List.mem_cons_of_mem _ hp)
theorem Lx (n : Nat) : ∀ l : List (Nat × SV), lk .dead n (Vl l) = if sh ≤ n then lk .dead (n - sh) l else .dead
 | [] => by simp [Vl, lk]
 | (j, x) :: l => by
   simp only [Vl, lk, Lx n l];by_cases h : sh ≤ n
   · simp only [h, if_true];by_cases e : n = j + sh
     · rw [if_pos e, if_pos (by omega)]
     · rw [if_neg e, if_neg (by omega)]
   · rw [if_neg (by omega), if_neg h, if_neg h]
theorem Oo (n : Nat) : ∀ l : List (Nat × SV), lk .dead n (Uw l) = lk .dead (n + sh) l
 | [] => by simp [Uw, lk]
 | (j, x) :: l => by
   simp only [Uw, lk];by_cases h : sh ≤ j
   · simp only [h, if_true, lk, Oo n l];by_cases e : n = j - sh
     · rw [if_pos e, if_pos (by omega)]
     · rw [if_neg e, if_neg (by omega)]
   · rw [if_neg h, if_neg (by omega), Oo n l]
theorem Om (n : Nat) : ∀ l : List (Nat × SV), lk .dead n (Hr l) = if n < D2 then lk .dead n l else .dead
 | [] => by simp [Hr, lk]
 | (j, x) :: l => by
   simp only [Hr, lk];by_cases h : j < D2
   · simp only [h, if_true, lk, Om n l];by_cases e : n = j
     · subst e; simp [h]
     · simp [e]
   · rw [if_neg h, Om n l];by_cases hn : n < D2
     · simp only [hn, if_true]; rw [if_neg (by omega)]
     · simp [hn]
theorem Qx : ∀ (args : List SV) (k : Nat), ∀ p ∈ D0 k args, p.1 < k + args.length
 | [], k => by simp [D0]
 | x :: l, k => by
   intro p hp;simp only [D0, List.mem_cons] at hp;rcases hp with rfl | hp
   · simp
   · have := Qx l (k + 1) p hp;simp only [List.length_cons]; omega
theorem Px : ∀ (ps : List Nat) (args : List SV), ∀ p ∈ Ih ps args, p.1 ∈ ps
 | [], args => by simp [Ih]
 | q :: ps, [] => by simp [Ih]
 | q :: ps, x :: args => by
   intro p hp;simp only [Ih, List.mem_cons] at hp;rcases hp with rfl | hp
   · simp
   · exact List.mem_cons_of_mem _ (Px ps args p hp)
theorem X1 (t h) (args : List SV) (hl : args.length ≤ D2) : (mk t h).enter args = mk (D0 0 args ++ (gh, .pv (.i .i64 0)) :: Vl t) h := by
 have h1 := R1;have h2 := Rh;unfold FS.enter mk;congr 1;funext n;simp only;rw [G2];by_cases hn : n < D2
 · rw [if_pos hn];have : lk SV.dead n ((gh, .pv (.i .i64 0)) :: Vl t) = .dead := by
    simp only [lk];rw [if_neg (by omega), Lx, if_neg (by omega)]
   rw [this]
 · rw [if_neg hn, Kq _ n (D0 0 args) fun p hp e => by have := Qx args 0 p hp; omega];simp only [lk];by_cases e : n = gh
   · rw [if_pos e, if_pos e]
   · rw [if_neg e, if_neg e, Lx, if_pos (by omega)]
theorem Ah4 (t h) : (mk t h).dn = mk (Uw t) h := by
 unfold FS.dn mk;congr 1;funext n;simp only [Oo]
theorem Wa (t h) (ps : List Nat) (args : List SV) (hp : ∀ p ∈ ps, p < D2) : (mk t h).round ps args = mk ((Ih ps args).reverse ++ (Hr (Uw t) ++ Vl t)) h := by
 have h1 := R1;have h2 := Rh;unfold FS.round mk;congr 1;funext n;simp only;rw [G2, G2];by_cases hn : n < D2
 · rw [if_pos hn];have e1 : lk SV.dead n (Vl t) = .dead := by rw [Lx, if_neg (by omega)]
   rw [e1, Om, if_pos hn, Oo]
 · have hm : ∀ d : SV, lk d n (Ih ps args).reverse = d := fun d => Kq _ _ _ fun p hpp e => by
    have := hp _ (Px ps args p (List.mem_reverse.1 hpp)); omega
   have hm2 : ∀ d : SV, lk d n (Hr (Uw t)) = d := fun d => Kq _ _ _ fun p hpp e => by
    have : ∀ l : List (Nat × SV), ∀ p ∈ Hr l, p.1 < D2 := fun l => by
     induction l with
     | nil => simp [Hr]
     | cons q l ih =>
       obtain ⟨j, x⟩ := q;intro p hp;simp only [Hr] at hp;split at hp
       · rcases List.mem_cons.1 hp with rfl | hp
         · assumption
         · exact ih p hp
       · exact ih p hp
    have := this _ p hpp; omega
   rw [if_neg hn, hm, hm2, Lx];by_cases e : n = gh
   · rw [if_pos e, if_neg (by omega)]
   · rw [if_neg e, if_pos (by omega)]
theorem V4 : sh = 1000001 := by rw [Rh]; rfl
theorem Ae2 : gh = 1000000 := by rw [R1]; rfl
theorem Z9 : Vl [] = [] := (rfl)
theorem V5 (j x l) : Vl ((j, x) :: l) = (j + 1000001, x) :: Vl l := by simp only [Vl, V4]
theorem Abu : Uw [] = [] := (rfl)
theorem X3 (j x l) : Uw ((j, x) :: l) = if 1000001 ≤ j then (j - 1000001, x) :: Uw l else Uw l := by simp only [Uw, V4]
theorem W0 : Hr [] = [] := (rfl)
theorem T2 (j x l) : Hr ((j, x) :: l) = if j ≤ 999999 then (j, x) :: Hr l else Hr l := by
 have hb : D2 = 1000000 := rfl;simp only [Hr];by_cases h : j ≤ 999999
 · rw [if_pos h, if_pos (by omega)]
 · rw [if_neg h, if_neg (by omega)]
theorem Wg (l) : Ih [] l = [] := by cases l <;> rfl
theorem T0 (p x ps l) : Ih (p :: ps) (x :: l) = (p, x) :: Ih ps l := (rfl)
theorem Ais (K s) : asQ K .normal s = K s := (rfl)
theorem Ab2 (K s) : Acx K .normal s = K (.pv (.b true)) [.set s.dn.t s.dn.h] := (rfl)
theorem Ahn (Q s) : itQ Q .normal s = itK Q s (s.t gh) := (rfl)
theorem Aho (Q s k) : itK Q s (.pv (.i k 0)) = Q .normal s.dn := by simp [itK]
theorem Aed (t h) : (⟨(mk t h).t, (mk t h).h⟩ : FS) = mk t h := (rfl)
theorem Ads (rs R s) : Af7 rs R .ret s = Oe rs R s := (rfl)
theorem Ahu (n z cs x) : SV.frzv n z cs (.pv x) = .pv x := (rfl)
theorem Ahw (n z cs f l) : SV.frzv n z cs (.fn f l) = .fn f (SV.frzvL n z cs l) := (rfl)
theorem Ahv (n z cs m) : SV.frzv n z cs (.os m) = .os m := (rfl)
theorem Aju (n z cs m o) : SV.frzv n z cs (.p m o) = if n = m then .pi z [cs] 0 o else .p m o := (rfl)
theorem Abh (n z cs) : SV.frzvL n z cs [] = [] := (rfl)
theorem Xo (n z cs x l) : SV.frzvL n z cs (x :: l) = SV.frzv n z cs x :: SV.frzvL n z cs l := (rfl)
theorem Abg (n z cs) : Ir n z cs [] = [] := (rfl)
theorem Xn (n z cs j x l) : Ir n z cs ((j, x) :: l) = (j, x.frzv n z cs) :: Ir n z cs l := (rfl)
theorem Abi (n z cs) : C3 n z cs [] = [] := (rfl)
theorem Xq (n z cs j l) : C3 n z cs ((j, none) :: l) = (j, none) :: C3 n z cs l := (rfl)
theorem Xp (n z cs j x l) : C3 n z cs ((j, some x) :: l) = if j = n then (j, none) :: C3 n z cs l else (j, some (x.frzv n z cs)) :: C3 n z cs l := by
 simp only [C3]; split <;> rfl
theorem Abj (n z cs a b) : Blk.frzv n z cs (.row a b) = .row a b := (rfl)
theorem Ac1 {T : List (Nat × SV)} {H : List (Nat × Option Blk)} {s' : FS} (n : Nat) {sz : Nat} {es : List (List PV)} (hn : lk none n H = some (.row sz es)) (h : Wk (mk (Oy n (.sl false sz es) T) (Hb n (.sl false sz es) H)) s') : Wk (mk T H) s' :=
 .frz n sz es hn (by rw [Xt]; exact h)
theorem Zn {T : List (Nat × SV)} {H : List (Nat × Option Blk)} {s' : FS} (n : Nat) {x : SV} {cs : List PV} (hn : lk none n H = some (.var x)) (hc : x.cells? = some cs) (h : Wk (mk (Ir n x.width cs T) (C3 n x.width cs H)) s') : Wk (mk T H) s' :=
 .frzv n x cs hn hc (by rw [Abk]; exact h)
attribute [go_sem] Z9 V5 Abu X3 W0 T2 Wg T0 Ais Ab2 Ahn Aho Aed Ads Ah4 Ae2 Ahu Ahw Ahv Aju Abh Xo Abg Xn Abi Xq Xp Abj List.reverse_cons List.reverse_nil
end Go.Proofs.Ytdikcfjpcgapaaa.Fw
namespace Go.Proofs.Ytdikcfjpcgapaaa.Fw
open Go.RowKit
variable {P : Program} {F : Fr} {N : Nat} {ρ ρ' : Nat → Value} {s : FS} {a : Act} {w w' : World} {V V' : View}
end Go.Proofs.Ytdikcfjpcgapaaa.Fw
namespace Go.Proofs.Ytdikcfjpcgapaaa.Fw
open Go.RowKit
section
variable {E : Env}
end
end Go.Proofs.Ytdikcfjpcgapaaa.Fw
namespace Go.Proofs.Ytdikcfjpcgapaaa.Fw
open Go.RowKit
variable {P : Program} {F : Fr} {N : Nat} {ρ : Nat → Value} {s : FS} {a : Act} {w : World} {V : View} {π : Nat → Nat}
end Go.Proofs.Ytdikcfjpcgapaaa.Fw
namespace Go.Proofs.Ytdikcfjpcgapaaa.Fw
open Go.RowKit
abbrev iM (d n : Nat) : I := ⟨.mv, [.t n], some d, none⟩
abbrev iJ (k : Kd) (x : List Opd) (d : Nat) : I := ⟨k, x, some d, none⟩
abbrev iO (k : Kd) (x : List Opd) : I := ⟨k, x, none, none⟩
abbrev iG (k : Kd) (x : List Opd) (d g : Nat) (w : Bool) : I := ⟨k, x, some d, some (g, w)⟩
abbrev cI (n : Int) : Opd := .c (.pv (.i .i64 n))
section
variable (E : Env)
def Tl (D ps : List Nat) (c j : Nat) (d : Option Nat) (T : List Nat) (acc : List (Nat × List Nat)) (l : List (I × Nat × List Nat × List Nat × Nat)) (Q : A5) (s : FS) : KK :=
 fun x u => okP D c (d.getD 1000000000) x u T ∧ V8 acc ps T ∧ sxP E l (Ack c j T acc) Q (s.apply d x u)
def gdP (D ps : List Nat) (c j : Nat) (k : Kd) (x : List Opd) (d : Nat) (T : List Nat) (acc : List (Nat × List Nat)) (l : List (I × Nat × List Nat × List Nat × Nat)) (Q : A5) (s : FS) : Prop := body E k x d s (Tl E D ps c j (some d) T acc l Q s)
def skP (D ps : List Nat) (c j : Nat) (d : Nat) (T : List Nat) (acc : List (Nat × List Nat)) (l : List (I × Nat × List Nat × List Nat × Nat)) (Q : A5) (s : FS) : Prop := Tl E D ps c j (some d) T acc l Q s (.tup []) []
theorem Mi (D ps c j k x d T acc l Q s) : gdP E D ps c j k x d T acc l Q s = body E k x d s (Tl E D ps c j (some d) T acc l Q s) := (rfl)
theorem Mh (D ps c j d T acc l Q s) : skP E D ps c j d T acc l Q s = Tl E D ps c j (some d) T acc l Q s (.tup []) [] := (rfl)
variable {E}
end
abbrev iU (k : Kd) (n d : Nat) : I := ⟨k, [.t n], some d, none⟩
abbrev iD (k : Kd) (m n d : Nat) : I := ⟨k, [.t m, .t n], some d, none⟩
abbrev iV (k : Kd) (n d g : Nat) (w : Bool) : I := ⟨k, [.t n], some d, some (g, w)⟩
abbrev L1 : Kd := .ld 1 false
abbrev L2 : Kd := .ld 2 true
abbrev L8 : Kd := .ld 8 true
abbrev B1 : Kd := .bin .eql
abbrev B2 : Kd := .bin .add
abbrev B3 : Kd := .bin .lss
abbrev B4 : Kd := .bin .gtr
abbrev B5 : Kd := .bin .sub
abbrev B6 : Kd := .bin .neq
abbrev B7 : Kd := .bin .leq
abbrev B8 : Kd := .bin .geq
abbrev U1 : Kd := .un .not
abbrev S1 : Kd := .sto 1
abbrev zV : SV := .vec 8 (List.replicate 8 (.i .u32 0))
abbrev zW : SV := .vec 8 (List.replicate 8 (.i .i64 0))
abbrev zX : SV := .vec 8 (List.replicate 8 (.b false))
abbrev zN : SV := .pv (.sl true 0 [])
abbrev zI : SV := .pv (.i .i64 0)
abbrev zU : SV := .pv (.i .u32 0)
abbrev zF : SV := .pv (.b false)
abbrev zS : SV := .pv (.s [])
abbrev zT : SV := .pv (.b true)
abbrev jP (a b d : Nat) : I := ⟨.pick, [.t a, .c zT, .t b], some d, none⟩
abbrev jQ (a b d : Nat) : I := ⟨.pick, [.t a, .t b, .c zF], some d, none⟩
abbrev jC (n : Int) (d : Nat) : I := ⟨.mv, [cI n], some d, none⟩
abbrev jW (z a b : Nat) : I := ⟨.sto z, [.t a, .t b], none, none⟩
abbrev jF (o n d : Nat) : I := ⟨.fa o, [.t n], some d, none⟩
abbrev jK (k : Kd) (a : Nat) (n : Int) (d : Nat) : I := ⟨k, [.t a, cI n], some d, none⟩
abbrev jA (k : Kd) (n d g : Nat) : I := ⟨k, [.t n], some d, some (g, true)⟩
abbrev jB (k : Kd) (n d g : Nat) : I := ⟨k, [.t n], some d, some (g, false)⟩
abbrev jE (d : Nat) : I := ⟨.new (.agg [zI, zU, zV, zI, zI, zU, zI, zU, zS, zN, zN, zI, zS, zI]), [], some d, none⟩
abbrev jL (o n d g : Nat) : I := ⟨.fa o, [.t n], some d, some (g, true)⟩
abbrev jN (o n d g : Nat) : I := ⟨.fa o, [.t n], some d, some (g, false)⟩
abbrev jS (l : List I) (c : C) : C := .seq (.ops l) c
abbrev jI (n : Nat) (a : C) : C := .ite (.t n) a .skip
attribute [go_sem] L1 L2 L8 B1 B2 B3 B4 B5 B6 B7 B8 U1 S1 zV zW zX zN zI zU zF zS zT
end Go.Proofs.Ytdikcfjpcgapaaa.Fw
namespace Go.Proofs.Ytdikcfjpcgapaaa.Fw
open Go.RowKit
variable {P : Program} {F : Fr} {N : Nat} {ρ ρ' : Nat → Value} {s : FS} {a : Act} {w w' : World} {V V' : View}
def Blk.plain : Blk → Bool
 | .var x => x.closed
 | .row _ _ => true
 | _ => false
theorem Own.closed {n m : Nat} {blk : Blk} (hb : blk.plain = true) (hV : V.le V') (he : ρ n = ρ' m) (h : Own w V ρ' m blk) : Own w V' ρ n blk := by
 cases blk with
 | var x =>
   obtain ⟨b, vs, ty, fr, u, g1, g2, g3, g4, g5, g6, g7⟩ := h;exact ⟨b, vs, ty, fr, u, he.trans g1, g2, g3, A8 hV hb g4, g5, g6, g7⟩
 | row sz es =>
   obtain ⟨base, cap, g1, g2, g3, g4, g5⟩ := h;refine ⟨base, cap, he.trans g1, g2, g3, g4, fun hc => ?_⟩;obtain ⟨b, vs, ty, fr, k1, k2, k3, k4, k5, k6⟩ := g5 hc;exact ⟨b, vs, ty, fr, k1, k2, k3, k4, k5, fun i c hi => (k6 i c hi).mono hV⟩
 | rowc sz es c => cases hb
 | it l p => cases hb
 | nest es => cases hb
end Go.Proofs.Ytdikcfjpcgapaaa.Fw
namespace Go.Proofs.Ytdikcfjpcgapaaa.Fw
open Go.RowKit
variable {P : Program}
end Go.Proofs.Ytdikcfjpcgapaaa.Fw
namespace Go.Proofs.Ytdikcfjpcgapaaa.Fw
open Go.RowKit
variable {P : Program} {F : Fr} {N : Nat} {ρ ρ' : Nat → Value} {s : FS} {a : Act} {w w' : World} {V V' : View}
end Go.Proofs.Ytdikcfjpcgapaaa.Fw
namespace Go.Proofs.Ytdikcfjpcgapaaa.Fw
open Go.RowKit
variable {P : Program} {F : Fr} {N : Nat} {ρ ρ' : Nat → Value} {s : FS} {a : Act} {w w' : World} {V V' : View}
theorem Afj (l : List UInt8) (x d n T K) : Qs (some (.row 1 (Ad l))) x d n T K = (n = 1 ∧ K (.nt d 0) [.del x, .new d (.nest [l])]) := by
 simp only [Qs];exact propext ⟨fun ⟨m, e, h⟩ => by rw [Mc e]; exact h, fun h => ⟨l, rfl, h⟩⟩
theorem Ab8 (es ys n m d sz bytes K) : Mp (some (.nest es)) (some (.nest ys)) n m d sz bytes K = (n ≠ m ∧ sz = 1 ∧ (es.length + ys.length) * bytes ≤ 70368744177664 ∧ K (.nt d 0) [.del n, .del m, .new d (.nest (es ++ ys))]) := (rfl)
theorem Wr (d h n i K) : Ah d h .len [.nt n i] K = Rp (Fl (h n) i) K := (rfl)
theorem Aei (k K) : Rp (some k) K = K (.pv (.i .i64 k)) [] := (rfl)
theorem Wx (es) : Fl (some (.nest es)) 0 = some es.length := (rfl)
theorem Ww (es i) : Fl (some (.nest es)) (i + 1) = (es[i]?).map List.length := (rfl)
theorem Aez (h n j m i K) : Es h n j (.nt m i) K = Ug (Fl (h m) i) n j m i K := (rfl)
theorem Ae0 (k sz j n i K) : Ug (some k) sz j n i K = (0 ≤ j ∧ j < k ∧ sz = 1 ∧ K (.np n i j.toNat) []) := (rfl)
theorem Ahi (h z a n i k K) : Dk h z a (.np n i k) K = Rq (h n) n i k z a K := (rfl)
theorem Aek (es n k size ag K) : Rq (some (.nest es)) n 0 k size ag K = (size = 1 ∧ ag = false ∧ k < es.length ∧ K (.nt n (k + 1)) []) := (rfl)
theorem Aej (es n i k size ag K) : Rq (some (.nest es)) n (i + 1) k size ag K = (size = 1 ∧ ag = false ∧ T6 es[i]? k K) := (rfl)
theorem Aax {l : List UInt8} {k : Nat} (h : k < l.length) (K) : T6 (some l) k K = K (.pv (.i .u8 (l.getD k 0).toNat)) [] := by
 have e : l[k]? = some (l.getD k 0) := by rw [List.getD_eq_getElem?_getD, List.getElem?_eq_getElem h]; rfl
 simp only [T6, e];exact propext ⟨fun ⟨b, h1, h2⟩ => by cases h1; exact h2, fun h => ⟨_, rfl, h⟩⟩
theorem Ago (h z n i k y K) : Ez h z (.np n i k) y K = Q8 (h n) n i k z y K := (rfl)
theorem Zz {es : List (List UInt8)} {j k : Nat} {l : List UInt8} {v : Int} {b : UInt8} (h1 : es[j]? = some l) (h2 : k < l.length) (h3 : v = (b.toNat : Int)) (n size K) :
 Q8 (some (.nest es)) n (j + 1) k size (.pv (.i .u8 v)) K = (size = 1 ∧ K .dead [.upd n (.nest (es.set j (l.set k b)))]) := by
 subst h3;simp only [Q8];refine propext ⟨fun ⟨h, j', l', b', e1, e2, e3, e4, hk⟩ => ⟨h, ?_⟩, fun ⟨h, hk⟩ => ⟨h, j, l, b, rfl, h1, h2, rfl, hk⟩⟩;cases e1;rw [h1] at e2; cases e2;have : b = b' := by
  simp only [SV.pv.injEq, PV.i.injEq, true_and] at e4;exact UInt8.toNat_inj.1 (by omega)
 subst this; exact hk
theorem Ai6 (x y) : SV.width (.nt x y) = 1 := (rfl)
theorem Ags (x y) : SV.segs (.nt x y) = [.nt x y] := (rfl)
theorem Aj3 (x y) : SV.cells? (.nt x y) = none := (rfl)
theorem Ahz (x y) : SV.flatB (.nt x y) = true := (rfl)
theorem Aaq (x y c off size K) : Ro (some [.nt x y]) false c off size K = K (.nt x y) [] := (rfl)
theorem Ajq (n m i) : SV.kill n (.nt m i) = if n = m then .dead else .nt m i := (rfl)
theorem Ajf (n m k i) : SV.ren n m (.nt k i) = if k = n then .nt m i else if k = m then .dead else .nt k i := (rfl)
theorem Aa0 (n a) : Blk.kill n (.nest a) = .nest a := (rfl)
theorem Aai (n m a) : Blk.ren n m (.nest a) = .nest a := (rfl)
theorem Ue (a b) : Vj (.nest a) (.nest b) = (a = b) := (rfl)
theorem Afc (m : Nat) (z z' : SV) (p : Nat → Prop) : (∃ n, SV.tup [.nt m 0, z] = SV.tup [.nt n 0, z'] ∧ p n) = (z = z' ∧ p m) :=
 propext ⟨fun ⟨n, h1, h2⟩ => by cases h1; exact ⟨rfl, h2⟩, fun ⟨h1, h2⟩ => ⟨m, by rw [h1], h2⟩⟩
attribute [go_sem] Afc Afl Afk Aby Abz Afj Af5 Ab8 Wr Aei Wx Ww Aez Ae0 Ahi Aek Aej Ago Ai6 Ags Aj3 Ahz Aaq Ajq Ajf Aa0 Aai Ue
theorem Zm {t : List (Nat × SV)} {h : List (Nat × Option Blk)} {s' : FS} (k n : Nat) {z : Nat} (ht : lk .dead k t = .pv (.sl true z [])) (hw : Wk (mk ((k, .nt n 0) :: Gh n t) ((n, some (.nest [])) :: D7 n h)) s') : Wk (mk t h) s' :=
 .niln k n z ht (by rw [Ks, H6, Ri]; exact hw)
theorem Vp {T : List (Nat × SV)} {H : List (Nat × Option Blk)} {s' : FS} (m n : Nat) {z : Nat} (hm : lk none m H = some (.var (.pv (.sl true z [])))) (hmn : m ≠ n) (h : Wk (mk (Gh n T) ((m, some (.var (.nt n 0))) :: (n, some (.nest [])) :: D7 n H)) s') : Wk (mk T H) s' :=
 .nilnv m n z hm hmn (by rw [Ks, H6, H6]; exact h)
theorem Ol {w : World} {V V' : View} {ρ ρ' : Nat → Value} {n m : Nat} {es : List (List UInt8)} (he : ρ' m = ρ n) (h : Own w V ρ n (.nest es)) : Own w V' ρ' m (.nest es) := by
 obtain ⟨o, cs, h1, h2, h3, h4, h5⟩ := h;have g3 : SlV w V' o 1 (cs.map fun c => [.v c]) := by
  refine SlV.flat ?_ h3;intro c hc x hx;obtain ⟨q, _, rfl⟩ := List.mem_map.1 hc;rw [List.mem_singleton.1 hx]; rfl
 have g4 : ∀ (i : Nat) (c : Value) (l : List UInt8), cs[i]? = some c → es[i]? = some l → SlV w V' c 1 (Ad l) := by
  intro i c l hi hl;refine SlV.flat ?_ (h4 i c l hi hl);intro c hc x hx;simp only [Ad, List.mem_map] at hc;obtain ⟨q, _, rfl⟩ := hc;rw [List.mem_singleton.1 hx]; rfl
 exact ⟨o, cs, he.trans h1, h2, g3, g4, h5⟩
theorem Ul (hm : P.follows .mixedOrders = true) {f N' : Nat} {rs : List Rv} {c : C} (hf : Ds P f = some (N', rs, c)) {args : List SV} {h : Nat → Option Blk} {d : Nat} {z : SV} {es : List (List UInt8)} (hlen : args.length ≤ N')
 (hargs : A4 args = true) (hzs : z.scalar = true) (hrun : ∀ F, sx (env P F N') c (Vi rs fun y g => ∃ n, y = .tup [.nt n 0, z] ∧ g n = some (.nest es)) (mk (D0 0 (Cd h args)) [])) :
 FunOk P f args h d (.tup [.nt d 0, z]) [.new d (.nest es)] := by
 refine ⟨Cm hf, fun F N ρ s a w hR hh vs hc => ?_⟩;refine Calls.mono (C9 hm hf (h := h) hlen hargs Ln hrun hR hh hc) fun e w' he => ?_;obtain ⟨v, rfl, hg, N'', ρ', s', a', y, hR', hy, n, rfl, hn⟩ := he;simp only [Conc, ConcL] at hy;obtain ⟨tv, rfl, u1, us1, rfl, hy, u2, us2, rfl, hz2, rfl⟩ := hy;have hO := hR'.own n _ hn;have hown : ∀ b, A1 (ρ' n) b → w.heap.size ≤ b ∧ b < w'.heap.size := fun b hb => by
  have ho : Ar ρ' s'.h b := ⟨n, _, hn, hb⟩
  exact ⟨(hR'.may b ho).resolve_right id, hR'.lt ho⟩
 have hnew := hR.adopt hg d (.nest es) (ρ' n) hown fun hV => Ol (by rw [Ai]) hO;refine ⟨_, _, rfl, hnew.1, ?_⟩;simp only [Conc, ConcL];exact ⟨_, rfl, u1, _, rfl, by rw [Ai]; exact hy, u2, _, rfl, Cp hzs hz2, rfl⟩
theorem FunOk.frzn {f : Nat} {args : List SV} {h : Nat → Option Blk} {d : Nat} {z : SV} {es : List (List UInt8)} (hzs : z.scalar = true) (hf : FunOk P f args h d (.tup [.nt d 0, z]) [.new d (.nest es)]) :
 FunOk P f args h d (.tup [.pv (.sl false 1 (G1 es)), z]) [.new d (.nest es), .del d] := by
 refine ⟨hf.1, fun F N ρ s a w hR hh vs hc => Calls.mono (hf.2 F N ρ s a w hR hh vs hc) fun e w' he => ?_⟩;obtain ⟨v, ρ', rfl, hR', hv⟩ := he;have e1 : s.hup [.new d (.nest es), .del d] = A9 (s.hup [.new d (.nest es)]) [d] := by
  simp only [FS.hup, A9, FS.seth, List.mem_singleton]
 have hn : (s.hup [.new d (.nest es)]).h d = some (.nest es) := by simp [FS.hup, FS.seth]
 have hD := hR'.weak (H4 _ [d]);simp only [Conc, ConcL] at hv;obtain ⟨tv, rfl, u1, us1, rfl, h1, u2, us2, rfl, h2, rfl⟩ := hv;refine ⟨_, ρ', rfl, by rw [e1]; exact hD, ?_⟩;rw [e1];have hp := Nf hR' hn (ns := [d]) (by simp) (i := 0) (v := u1) (by simp only [Conc]; exact h1);simp only [Conc, ConcL];exact ⟨_, rfl, u1, _, rfl, by simpa only [Lu, Conc] using hp, u2, _, rfl, Cp hzs h2, rfl⟩
theorem Aac {l : List UInt8} {k : Nat} (b : UInt8) : (Ad l).set k [.i .u8 (b.toNat : Int)] = Ad (l.set k b) := by
 simp [Ad, List.map_set]
end Go.Proofs.Ytdikcfjpcgapaaa.Fw
