/- What the functions compute that the laws of this seat reach. -/
import Derived.Test.YthmjebkldgdeiaaWalk1
import Derived.OpenShut
import Derived.ShutString
import Derived.ChangeOld
import Derived.SizedLaws
import Derived.ChangeOld
import Derived.Lib.Bytealg
import Derived.Lib.Overlaps
import Derived.OpenShut
import Derived.ShutString
import Derived.SizedLaws
set_option linter.unusedVariables false
set_option linter.unusedSimpArgs false
set_option linter.unusedSectionVars false
set_option maxRecDepth 100000
namespace Go.Proofs.Ythmjebkldgdeiaa.Fw
open Go.RowKit Go.Proofs
def mkB (e : Evt) : Bool := decide (e.kind = 1 ∨ e.kind = 2 ∨ e.kind = 7)
def objI (e : Evt) : Idn := if e.kind = 7 then evObj e else evId e
def goF (f : Evt) (obj id : Idn) : Bool := decide (f.kind = 6 ∨ f.kind = 7) && (decide (evObj f = obj) && decide (id ∈ f.gone.l))
def byG (l : List Evt) (obj id : Idn) : Vc := l.foldl (fun g f => if goF f obj id = true then withV g f.rep f.seq else g) fun _ => 0
theorem byG_snoc (l : List Evt) (f : Evt) (obj id : Idn) : byG (l ++ [f]) obj id = if goF f obj id = true then withV (byG l obj id) f.rep f.seq else byG l obj id := by simp [byG]
def entB (m : List Evt) (e : Evt) : Ent := ⟨evId e, evDir e, e.name, objI e, byG m (objI e) (evId e)⟩
def entsG (l m : List Evt) : List Ent := m.foldl (fun out e => if mkB e = true then putGo out (entB l e) false else out) []
theorem entsG_snoc (l m : List Evt) (e : Evt) : entsG l (m ++ [e]) = if mkB e = true then putGo (entsG l m) (entB l e) false else entsG l m := by simp [entsG]
theorem putGo_len : ∀ (l : List Ent) (x : Ent) (b : Bool), (putGo l x b).length ≤ l.length + 1
 | [], x, b => by unfold putGo; split <;> simp
 | y :: l, x, b => by
   unfold putGo
   split
   · have := putGo_len l x true; simp only [List.length_cons]; omega
   · split
     · have : putGo l x true = putGo l x true := rfl
       have h2 : ∀ l : List Ent, (putGo l x true).length ≤ l.length := fun l => by
        induction l with
        | nil => simp [putGo]
        | cons z l ih => unfold putGo; split <;> simp <;> omega
       have := h2 l
       simp only [List.length_cons]; omega
     · have := putGo_len l x b; simp only [List.length_cons]; omega
theorem entsG_len (l : List Evt) : ∀ (n : Nat) (m : List Evt), m.length = n → (entsG l m).length ≤ n
 | 0, m, h => by obtain rfl := List.eq_nil_of_length_eq_zero h; simp [entsG]
 | n + 1, m, h => by
   have hne : m ≠ [] := fun e => by subst e; simp at h
   have e1 := (List.dropLast_concat_getLast hne).symm
   have h1 := entsG_len l n m.dropLast (by simp [h])
   rw [e1, entsG_snoc]
   split
   · have := putGo_len (entsG l m.dropLast) (entB l (m.getLast hne)) false; omega
   · omega
def wrB (e : Evt) : Bool := decide (e.kind = 3 ∨ e.kind = 4 ∨ e.kind = 5)
def gvF (g : Evt) (obj id : Idn) : Bool := wrB g && (decide (evObj g = obj) && decide (id ∈ g.base.l))
def gvG (l : List Evt) (obj id : Idn) : Vc := l.foldl (fun a g => if gvF g obj id = true then withV a g.rep g.seq else a) fun _ => 0
theorem gvG_snoc (l : List Evt) (g : Evt) (obj id : Idn) : gvG (l ++ [g]) obj id = if gvF g obj id = true then withV (gvG l obj id) g.rep g.seq else gvG l obj id := by simp [gvG]
noncomputable def verB (l m : List Evt) (e : Evt) : Ver := ⟨e.rep, e.seq, bytesD l l.length (evId e), gvG m (evObj e) (evId e)⟩
noncomputable def versG (l : List Evt) (obj : Idn) (m : List Evt) : List Ver := m.foldl (fun out e => if wrB e = true ∧ evObj e = obj then addLV out [] (verB l l e) else out) []
theorem versG_snoc (l : List Evt) (obj : Idn) (m : List Evt) (e : Evt) : versG l obj (m ++ [e]) = if wrB e = true ∧ evObj e = obj then addLV (versG l obj m) [] (verB l l e) else versG l obj m := by simp [versG]
theorem mem_addLV {l : List Ver} {v x : Ver} : x ∈ addLV l [] v ↔ x = v ∨ x ∈ l := by
 unfold addLV; rw [markL_nil]
 simp only [List.mem_append, List.mem_cons]
 have : x ∈ l ↔ x ∈ l.take (atL l v.rep v.seq 0).1 ∨ x ∈ l.drop (atL l v.rep v.seq 0).1 := by
  rw [← List.mem_append, List.take_append_drop]
 rw [this]
 constructor
 · rintro (h | h | h)
   · exact .inr (.inl h)
   · exact .inl h
   · exact .inr (.inr h)
 · rintro (h | h | h)
   · exact .inr (.inl h)
   · exact .inl h
   · exact .inr (.inr h)
theorem addLV_len (l : List Ver) (v : Ver) : (addLV l [] v).length = l.length + 1 := by
 unfold addLV; rw [markL_nil]
 simp only [List.length_append, List.length_take, List.length_cons, List.length_drop]; omega
theorem addLV_sorted {l : List Ver} {v : Ver} (hs : SortedV l) (hn : findV l v.rep v.seq = none) : SortedV (addLV l [] v) := by
 unfold addLV; rw [markL_nil]
 have hfalse : atL l v.rep v.seq 0 = ((atL l v.rep v.seq 0).1, false) := by
  rcases h : atL l v.rep v.seq 0 with ⟨i, b⟩
  cases b with
  | false => rfl
  | true =>
    obtain ⟨_, u, _, _, h4⟩ := atL_true h
    rw [hn] at h4; cases h4
 obtain ⟨_, _, _, _, h5, h6⟩ := atL_false hs hfalse
 generalize (atL l v.rep v.seq 0).1 = p at *
 simp only [Nat.sub_zero] at h5 h6
 refine List.pairwise_append.2 ⟨hs.sublist (List.take_sublist _ _), List.pairwise_cons.2 ⟨fun u hu => h6 u hu, hs.sublist (List.drop_sublist _ _)⟩, fun a ha b hb => ?_⟩
 rcases List.mem_cons.1 hb with rfl | hb
 · exact h5 a ha
 · have := h5 a ha
   exact idLt_trans this (h6 b hb)
theorem versG_mem {l : List Evt} {obj : Idn} {v : Ver} : ∀ (n : Nat) (m : List Evt), m.length = n → (v ∈ versG l obj m ↔ ∃ e ∈ m, (wrB e = true ∧ evObj e = obj) ∧ v = verB l l e)
 | 0, m, h => by obtain rfl := List.eq_nil_of_length_eq_zero h; simp [versG]
 | n + 1, m, h => by
   have hne : m ≠ [] := fun e => by subst e; simp at h
   have e1 := (List.dropLast_concat_getLast hne).symm
   have ih := versG_mem (l := l) (obj := obj) (v := v) n m.dropLast (by simp [h])
   rw [e1, versG_snoc]
   generalize m.getLast hne = e at *
   generalize m.dropLast = m' at *
   split
   · rename_i hc
     rw [mem_addLV, ih]
     constructor
     · rintro (rfl | ⟨f, h1, h2⟩)
       · exact ⟨e, by simp, hc, rfl⟩
       · exact ⟨f, by simp [h1], h2⟩
     · rintro ⟨f, h1, h2, h3⟩
       rcases List.mem_append.1 h1 with h1 | h1
       · exact .inr ⟨f, h1, h2, h3⟩
       · rw [List.mem_singleton] at h1; subst h1; exact .inl h3
   · rename_i hc
     rw [ih]
     constructor
     · rintro ⟨f, h1, h2⟩; exact ⟨f, by simp [h1], h2⟩
     · rintro ⟨f, h1, h2, h3⟩
       rcases List.mem_append.1 h1 with h1 | h1
       · exact ⟨f, h1, h2, h3⟩
       · rw [List.mem_singleton] at h1; subst h1; exact absurd h2 hc
def NodE (l : List Evt) : Prop := (l.map evId).Nodup
theorem versG_new {l m : List Evt} {obj : Idn} {e : Evt} (hn : NodE (m ++ [e])) : findV (versG l obj m) e.rep e.seq = none := by
 rw [findV_none]
 intro v hv ⟨h1, h2⟩
 obtain ⟨f, hf, _, rfl⟩ := (versG_mem m.length m rfl).1 hv
 have : evId f = evId e := Prod.ext h1 h2
 unfold NodE at hn
 rw [List.map_append, List.nodup_append] at hn
 exact hn.2.2 (evId f) (List.mem_map_of_mem hf) (evId e) (by simp) this
theorem NodE.take {l : List Evt} (h : NodE l) (k : Nat) : NodE (l.take k) := by
 unfold NodE at *; rw [List.map_take]; exact h.sublist (List.take_sublist _ _)
theorem versG_sorted {l : List Evt} {obj : Idn} : ∀ (n : Nat) (m : List Evt), m.length = n → NodE m → SortedV (versG l obj m) ∧ (versG l obj m).length ≤ n
 | 0, m, h, _ => by obtain rfl := List.eq_nil_of_length_eq_zero h; exact ⟨List.Pairwise.nil, by simp [versG]⟩
 | n + 1, m, h, hn => by
   have hne : m ≠ [] := fun e => by subst e; simp at h
   have e1 := (List.dropLast_concat_getLast hne).symm
   have hn' : NodE m.dropLast := by unfold NodE at *; rw [List.map_dropLast]; exact hn.sublist (List.dropLast_sublist _)
   obtain ⟨h1, h2⟩ := versG_sorted (l := l) (obj := obj) n m.dropLast (by simp [h]) hn'
   rw [e1] at hn ⊢
   rw [versG_snoc]
   split
   · exact ⟨addLV_sorted h1 (versG_new hn), by rw [addLV_len]; omega⟩
   · exact ⟨h1, by omega⟩
structure EvsOk (l : List Evt) (rk : Evt → Nat) : Prop where
 len : l.length ≤ 400
 nod : NodE l
 ev : ∀ e ∈ l, ev e ∧ e.data.length ≤ 1000
 grd : Grd l rk
 rk : ∀ e ∈ l, rk e < l.length
mutual
theorem rn_cl {π : Nat → Nat} : ∀ {x : SV}, x.closed = true → x.rn π = x
 | .pv _, _ => rfl
 | .vec _ _, _ => rfl
 | .pi _ _ _ _, _ => rfl
 | .dead, _ => rfl
 | .agg l, h => by simp only [SV.closed] at h; simp only [SV.rn, rnL_cl h]
 | .tup l, h => by simp only [SV.closed] at h; simp only [SV.rn, rnL_cl h]
 | .fn f l, h => by simp only [SV.closed] at h; simp only [SV.rn, rnL_cl h]
 | .p _ _, h => by simp [SV.closed] at h
 | .ps _ _, h => by simp [SV.closed] at h
 | .pr _ _ _ _, h => by simp [SV.closed] at h
 | .os _, h => by simp [SV.closed] at h
 | .ov _ _ _ _, h => by simp [SV.closed] at h
theorem rnL_cl {π : Nat → Nat} : ∀ {l : List SV}, SV.closedL l = true → SV.rnL π l = l
 | [], _ => rfl
 | x :: l, h => by
   simp only [SV.closedL, Bool.and_eq_true] at h
   simp only [SV.rnL, rn_cl h.1, rnL_cl h.2]
end
mutual
theorem tn_cl : ∀ {x : SV}, x.closed = true → tn x = []
 | .pv _, _ => rfl
 | .vec _ _, _ => rfl
 | .pi _ _ _ _, _ => rfl
 | .dead, _ => rfl
 | .agg l, h => by simp only [SV.closed] at h; simp only [tn, tops_cl h]
 | .tup l, h => by simp only [SV.closed] at h; simp only [tn, tops_cl h]
 | .fn f l, h => by simp only [SV.closed] at h; simp only [tn, tops_cl h]
 | .p _ _, h => by simp [SV.closed] at h
 | .ps _ _, h => by simp [SV.closed] at h
 | .pr _ _ _ _, h => by simp [SV.closed] at h
 | .os _, h => by simp [SV.closed] at h
 | .ov _ _ _ _, h => by simp [SV.closed] at h
theorem tops_cl : ∀ {l : List SV}, SV.closedL l = true → tops l = []
 | [], _ => rfl
 | x :: l, h => by
   simp only [SV.closedL, Bool.and_eq_true] at h
   simp only [tops, tn_cl h.1, tops_cl h.2, List.append_nil]
end
theorem sw1_a (a m : Nat) : sw1 a m a = m := if_pos rfl
theorem FunOk.io {P : Program} {f : Nat} {a : List SV} {c c' x : SV} (hf : ∀ h d, h 900 = some (.var c) → FunOk P f (.p 900 0 :: a) h d x [.upd 900 (.var c')]) (ha : SV.closedL a = true) (hx : x.closed = true) (hc : c.closed = true) (hc' : c'.closed = true) {g : Nat} {h : Nat → Option Blk} {d : Nat} (hg : h g = some (.var c)) :
 FunOk P f (.p g 0 :: a) h d x [.upd g (.var c')] := by
 have h1 := (hf (fun k => h (sw1 900 g k)) d (by show h (sw1 900 g 900) = _; rw [sw1_a]; exact hg)).rn (π := sw1 900 g) (sw1_inv 900 g) (d' := d)
 simp only [SV.rnL, SV.rn, HU.rn, Blk.rn, List.map_cons, List.map_nil, sw1_a, rnL_cl ha, rn_cl hx, rn_cl hc'] at h1
 refine h1.at fun n hn => ?_
 simp only [tops, tn, tops_cl ha, List.append_nil, List.mem_singleton] at hn
 subst hn
 simp only [sw1_inv, hg, Option.map_some, Blk.rn, rn_cl hc]
theorem FunOk.quiet {P : Program} {f : Nat} {args : List SV} {h : Nat → Option Blk} {d g : Nat} {x : SV} {blk : Blk} (hf : FunOk P f args h d x [.upd g blk]) (hg : h g = some blk) (hin : g ∈ tops args) : FunOk P f args h d x [] :=
 ⟨hf.1, fun F N ρ s a w hR hh vs hc => by
  have hs : s.h g = some blk := (hh g hin).trans hg
  have e : s.hup [.upd g blk] = s := FS.ext' (fun _ => rfl) fun n => by
   simp only [FS.hup, FS.seth]
   split
   · rename_i e; rw [e]; exact hs.symm
   · rfl
  have := hf.2 F N ρ s a w hR hh vs hc
  rw [e] at this
  exact this⟩
def stepO (e : Evt) (o : Obj) (f : Evt) : Obj :=
 if evObj f = evId e then
  if f.kind = 7 then (if idLt o.last.1 o.last.2 f.rep f.seq = true then { o with last := evId f, name := f.name } else o)
  else if f.kind = 6 then { o with seen := vJoin o.seen (withV f.dep f.rep f.seq) } else o
 else o
noncomputable def objB (l m : List Evt) (e : Evt) : Obj := m.foldl (stepO e) ⟨evId e, decide (e.kind = 2), evId e, e.name, fun _ => 0, versG l (evId e) l⟩
theorem objB_snoc (l m : List Evt) (e f : Evt) : objB l (m ++ [f]) e = stepO e (objB l m e) f := by simp [objB]
def insO (l : List Obj) (o : Obj) : List Obj := l.take (posO l o.id) ++ o :: l.drop (posO l o.id)
noncomputable def bStep (l : List Evt) (p : St × Vc) (e : Evt) : St × Vc :=
 if e.kind = 1 ∨ e.kind = 2 then ({ p.1 with objs := insO p.1.objs (objB l l e) }, p.2)
 else if e.kind = 8 then (if getV p.2 e.rep < e.seq then (seatS p.1 e, withV p.2 e.rep e.seq) else p)
 else if e.kind = 9 then (retS p.1 e, p.2)
 else p
noncomputable def bldP (l m : List Evt) : St × Vc := m.foldl (bStep l) (⟨knownG l, [], entsG l l, fun _ => 0, fun _ => false⟩, fun _ => 0)
noncomputable def buildS (l : List Evt) : St := (bldP l l).1
theorem bldP_snoc (l m : List Evt) (e : Evt) : bldP l (m ++ [e]) = bStep l (bldP l m) e := by simp [bldP]
theorem mem_insO {l : List Obj} {o x : Obj} : x ∈ insO l o ↔ x = o ∨ x ∈ l := by
 unfold insO
 simp only [List.mem_append, List.mem_cons]
 have : x ∈ l ↔ x ∈ l.take (posO l o.id) ∨ x ∈ l.drop (posO l o.id) := by rw [← List.mem_append, List.take_append_drop]
 rw [this]
 constructor
 · rintro (h | h | h)
   · exact .inr (.inl h)
   · exact .inl h
   · exact .inr (.inr h)
 · rintro (h | h | h)
   · exact .inr (.inl h)
   · exact .inl h
   · exact .inr (.inr h)
theorem insO_len (l : List Obj) (o : Obj) : (insO l o).length = l.length + 1 := by
 unfold insO
 simp only [List.length_append, List.length_take, List.length_cons, List.length_drop]
 have := posO_le l o.id; omega
theorem obN_ins (l : List Obj) (o : Obj) : (insO l o).map obN = insE (l.map obN) (obN o) := by
 unfold insO insE posO
 simp [List.map_take, List.map_drop]; rfl
theorem sortO_ins {l : List Obj} {o : Obj} (hs : SortO l) (hn : ∀ x ∈ l, x.id ≠ o.id) : SortO (insO l o) := by
 unfold SortO; rw [obN_ins]
 refine sort_ins hs (look_none.2 fun x hx => ?_)
 obtain ⟨u, hu, rfl⟩ := List.mem_map.1 hx
 exact hn u hu
theorem objB_id (l : List Evt) (e : Evt) : ∀ m : List Evt, (objB l m e).id = evId e := fun m => by
 unfold objB
 generalize hq : (⟨evId e, decide (e.kind = 2), evId e, e.name, fun _ => 0, versG l (evId e) l⟩ : Obj) = o
 have : o.id = evId e := by rw [← hq]
 clear hq
 induction m generalizing o with
 | nil => exact this
 | cons f m ih =>
   simp only [List.foldl_cons]
   refine ih _ ?_
   unfold stepO
   split
   · split
     · split <;> exact this
     · split <;> exact this
   · exact this
theorem bld_objs {l : List Evt} : ∀ (n : Nat) (m : List Evt), m.length = n → NodE m → SortO (bldP l m).1.objs ∧ (bldP l m).1.objs.length ≤ n ∧ ∀ o, o ∈ (bldP l m).1.objs ↔ ∃ e ∈ m, (e.kind = 1 ∨ e.kind = 2) ∧ o = objB l l e
 | 0, m, h, _ => by obtain rfl := List.eq_nil_of_length_eq_zero h; exact ⟨List.Pairwise.nil, by simp [bldP], by simp [bldP]⟩
 | n + 1, m, h, hn => by
   have hne : m ≠ [] := fun e => by subst e; simp at h
   have e1 := (List.dropLast_concat_getLast hne).symm
   have hn' : NodE m.dropLast := by unfold NodE at *; rw [List.map_dropLast]; exact hn.sublist (List.dropLast_sublist _)
   obtain ⟨h1, h2, h3⟩ := bld_objs (l := l) n m.dropLast (by simp [h]) hn'
   rw [e1] at hn ⊢
   rw [bldP_snoc]
   generalize m.getLast hne = e at *
   generalize m.dropLast = m' at *
   have grow : ∀ o : Obj, ((∃ f ∈ m' ++ [e], (f.kind = 1 ∨ f.kind = 2) ∧ o = objB l l f) ↔ (∃ f ∈ m', (f.kind = 1 ∨ f.kind = 2) ∧ o = objB l l f) ∨ ((e.kind = 1 ∨ e.kind = 2) ∧ o = objB l l e)) := fun o => by
    simp only [List.mem_append, List.mem_singleton]
    constructor
    · rintro ⟨f, hf | rfl, h⟩
      · exact .inl ⟨f, hf, h⟩
      · exact .inr h
    · rintro (⟨f, hf, h⟩ | h)
      · exact ⟨f, .inl hf, h⟩
      · exact ⟨e, .inr rfl, h⟩
   by_cases h12 : e.kind = 1 ∨ e.kind = 2
   · have hS : (bStep l (bldP l m') e).1.objs = insO (bldP l m').1.objs (objB l l e) := by unfold bStep; rw [if_pos h12]
     rw [hS]
     have hnew : ∀ x ∈ (bldP l m').1.objs, x.id ≠ (objB l l e).id := fun x hx => by
      obtain ⟨f, hf, _, rfl⟩ := (h3 x).1 hx
      rw [objB_id, objB_id]
      unfold NodE at hn
      rw [List.map_append, List.nodup_append] at hn
      exact hn.2.2 (evId f) (List.mem_map_of_mem hf) (evId e) (by simp)
     refine ⟨sortO_ins h1 hnew, by rw [insO_len]; omega, fun o => ?_⟩
     rw [mem_insO, h3, grow]
     constructor
     · rintro (h | h)
       · exact .inr ⟨h12, h⟩
       · exact .inl h
     · rintro (h | h)
       · exact .inr h
       · exact .inl h.2
   · have hS : (bStep l (bldP l m') e).1.objs = (bldP l m').1.objs := by
      unfold bStep; rw [if_neg h12]
      split
      · split <;> rfl
      · split <;> rfl
     rw [hS]
     refine ⟨h1, by omega, fun o => ?_⟩
     rw [h3, grow]
     exact ⟨.inl, fun h => h.resolve_right fun q => h12 q.1⟩
theorem bld_ents (l m : List Evt) : (bldP l m).1.ents = entsG l l ∧ (bldP l m).1.known = knownG l := by
 unfold bldP
 generalize hq : ((⟨knownG l, [], entsG l l, fun _ => 0, fun _ => false⟩ : St), (fun _ => 0 : Vc)) = p
 have : p.1.ents = entsG l l ∧ p.1.known = knownG l := by rw [← hq]; exact ⟨rfl, rfl⟩
 clear hq
 induction m generalizing p with
 | nil => exact this
 | cons f m ih =>
   simp only [List.foldl_cons]
   refine ih _ ?_
   unfold bStep
   split
   · exact this
   · split
     · split
       · exact this
       · exact this
     · split <;> exact this
theorem posO_lt {l : List Obj} {i : Idn} {k : Nat} {x : Obj} (hk : k < posO l i) (hx : l[k]? = some x) : ilt x.id i = true := by
 obtain ⟨y, h1, h2⟩ := pos_lt (l := l.map obN) hk
 rw [get_obN hx] at h1; cases h1; exact h2
theorem posO_ge {l : List Obj} (hs : SortO l) {i : Idn} {k : Nat} {x : Obj} (hk : posO l i ≤ k) (hx : l[k]? = some x) : ¬ ilt x.id i = true := pos_ge (l := l.map obN) hs hk (get_obN hx)
theorem objAt_find {l : List Obj} (hs : SortO l) (i : Idn) : objAt l i = l.find? fun o => decide (o.id = i) := by
 cases h : objAt l i with
 | some o =>
   obtain ⟨h1, h2⟩ := objAt_some h
   symm
   obtain ⟨hlt, hg⟩ := List.getElem?_eq_some_iff.1 h1
   rw [List.find?_eq_some_iff_getElem]
   refine ⟨by simpa using h2, posO l i, hlt, hg, fun j hj => ?_⟩
   have := posO_lt hj (List.getElem?_eq_getElem (by omega))
   simp only [Bool.not_eq_true', decide_eq_false_iff_not]
   intro q
   rw [q] at this
   exact ilt_irr this
 | none =>
   symm
   rw [List.find?_eq_none]
   intro x hx q
   have q : x.id = i := by simpa using q
   obtain ⟨j, hj⟩ := List.mem_iff_getElem?.1 hx
   have h1 : ¬ j < posO l i := fun hq => by
    have := posO_lt hq hj
    rw [q] at this; exact ilt_irr this
   by_cases e : j = posO l i
   · unfold objAt at h
     rw [← e, hj] at h
     simp only at h
     rw [if_pos q] at h; cases h
   · have hlt := (List.getElem?_eq_some_iff.1 hj).1
     have hp : posO l i < l.length := by omega
     have hy : l[posO l i]? = some l[posO l i] := List.getElem?_eq_getElem hp
     have h3 := sortO_get hs hy hj (by omega)
     rw [q] at h3
     exact posO_ge hs (Nat.le_refl _) hy h3
theorem hasB_pos {a : Vc} {r : Int} {q : Nat} (h : hasB a r q = true) : 1 ≤ q ∧ 1 ≤ r ∧ r ≤ 8 ∧ q ≤ a (r - 1).toNat := by
 unfold hasB getV at h
 simp only [decide_eq_true_eq] at h
 by_cases hr : 1 ≤ r ∧ r ≤ 8
 · rw [if_pos hr] at h; exact ⟨h.1, hr.1, hr.2, h.2⟩
 · rw [if_neg hr] at h; omega
def vid (v : Ver) : Idn := (v.rep, v.seq)
def markB (bs : List Idn) (r : Int) (q : Nat) (x : Ver) : Ver := if (x.rep, x.seq) ∈ bs then markV x r q else x
theorem markL_e (l : List Ver) (bs : List Idn) (r : Int) (q : Nat) : markL l bs r q = l.map (markB bs r q) := rfl
theorem markB_id (bs : List Idn) (r : Int) (q : Nat) (x : Ver) : vid (markB bs r q x) = vid x := by
 have := mark_id x bs r q
 simp only [vid, markB, this.1, this.2]
theorem mem_addL {l : List Ver} {bs : List Idn} {v x : Ver} : x ∈ addLV l bs v ↔ x = v ∨ ∃ y ∈ l, x = markB bs v.rep v.seq y := by
 unfold addLV
 rw [markL_e]
 have h : ∀ p, x ∈ (l.map (markB bs v.rep v.seq)).take p ++ v :: (l.map (markB bs v.rep v.seq)).drop p ↔ x = v ∨ x ∈ l.map (markB bs v.rep v.seq) := fun p => by
  conv => rhs; rw [← List.take_append_drop p (l.map (markB bs v.rep v.seq))]
  simp only [List.mem_append, List.mem_cons]
  constructor
  · rintro (h | h | h)
    · exact .inr (.inl h)
    · exact .inl h
    · exact .inr (.inr h)
  · rintro (h | h | h)
    · exact .inr (.inl h)
    · exact .inl h
    · exact .inr (.inr h)
 rw [h, List.mem_map]
 exact or_congr_right ⟨fun ⟨y, h1, h2⟩ => ⟨y, h1, h2.symm⟩, fun ⟨y, h1, h2⟩ => ⟨y, h1, h2.symm⟩⟩
theorem atL_none {l : List Ver} {r : Int} {q : Nat} (h : findV l r q = none) : ∃ p, atL l r q 0 = (p, false) := by
 rcases ha : atL l r q 0 with ⟨p, b⟩
 cases b with
 | false => exact ⟨p, rfl⟩
 | true => obtain ⟨_, u, _, _, h4⟩ := atL_true ha; rw [h] at h4; cases h4
theorem addL_sorted {l : List Ver} {bs : List Idn} {v : Ver} (hs : SortedV l) (h : findV l v.rep v.seq = none) : SortedV (addLV l bs v) := by
 obtain ⟨p, hp⟩ := atL_none h
 obtain ⟨_, g2, g3, g4, g5, g6⟩ := atL_false hs hp
 rw [Nat.sub_zero] at g2 g5 g6
 have hM := markL_sorted (bs := bs) (r := v.rep) (q := v.seq) hs
 unfold addLV
 rw [hp]
 simp only
 have h5 : ∀ x ∈ (markL l bs v.rep v.seq).take p, idLt x.rep x.seq v.rep v.seq = true := fun x hx => by
  rw [markL_e, ← List.map_take] at hx
  obtain ⟨y, hy, rfl⟩ := List.mem_map.1 hx
  have := markB_id bs v.rep v.seq y
  simp only [vid, Prod.mk.injEq] at this
  rw [this.1, this.2]; exact g5 y hy
 have h6 : ∀ x ∈ (markL l bs v.rep v.seq).drop p, idLt v.rep v.seq x.rep x.seq = true := fun x hx => by
  rw [markL_e, ← List.map_drop] at hx
  obtain ⟨y, hy, rfl⟩ := List.mem_map.1 hx
  have := markB_id bs v.rep v.seq y
  simp only [vid, Prod.mk.injEq] at this
  rw [this.1, this.2]; exact g6 y hy
 refine List.pairwise_append.2 ⟨List.Pairwise.sublist (List.take_sublist _ _) hM, List.pairwise_cons.2 ⟨h6, List.Pairwise.sublist (List.drop_sublist _ _) hM⟩, fun a ha b hb => ?_⟩
 rcases List.mem_cons.1 hb with rfl | hb
 · exact h5 a ha
 · exact idLt_trans (h5 a ha) (h6 b hb)
theorem snocR {α : Type} {P : List α → Prop} (h0 : P []) (h1 : ∀ l a, P l → P (l ++ [a])) : ∀ l, P l := by
 have key : ∀ n, ∀ l : List α, l.length = n → P l := by
  intro n
  induction n with
  | zero => intro l hl; rw [List.eq_nil_of_length_eq_zero hl]; exact h0
  | succ n ih =>
    intro l hl
    have hne : l ≠ [] := fun e => by subst e; simp at hl
    rw [← List.dropLast_concat_getLast hne]
    exact h1 _ _ (ih _ (by simp [hl]))
 exact fun l => key _ l rfl
theorem pw_ext {α : Type} {r : α → α → Prop} (ha : ∀ a b, r a b → r b a → False) : ∀ {l m : List α}, l.Pairwise r → m.Pairwise r → (∀ a, a ∈ l ↔ a ∈ m) → l = m
 | [], [], _, _, _ => rfl
 | [], y :: m, _, _, h => by have := (h y).2 List.mem_cons_self; cases this
 | x :: l, [], _, _, h => by have := (h x).1 List.mem_cons_self; cases this
 | x :: l, y :: m, hl, hm, h => by
   obtain ⟨h1, h2⟩ := List.pairwise_cons.1 hl
   obtain ⟨k1, k2⟩ := List.pairwise_cons.1 hm
   have ex : x = y := by
    rcases List.mem_cons.1 ((h x).1 List.mem_cons_self) with a | a
    · exact a
    · rcases List.mem_cons.1 ((h y).2 List.mem_cons_self) with b | b
      · exact b.symm
      · exact (ha _ _ (h1 y b) (k1 x a)).elim
   subst ex
   congr 1
   refine pw_ext ha h2 k2 fun a => ?_
   have ne : ∀ {n : List α}, (∀ b ∈ n, r x b) → x ∉ n := fun hn hx => ha x x (hn x hx) (hn x hx)
   constructor
   · intro hq
     rcases List.mem_cons.1 ((h a).1 (List.mem_cons_of_mem _ hq)) with e | e
     · subst e; exact absurd hq (ne h1)
     · exact e
   · intro hq
     rcases List.mem_cons.1 ((h a).2 (List.mem_cons_of_mem _ hq)) with e | e
     · subst e; exact absurd hq (ne k1)
     · exact e
theorem sortE_ext {l m : List Ent} (hl : SortE l) (hm : SortE m) (h : ∀ x, x ∈ l ↔ x ∈ m) : l = m := pw_ext (fun a b h k => ilt_as h k) hl hm h
theorem sortV_ext {l m : List Ver} (hl : SortedV l) (hm : SortedV m) (h : ∀ x, x ∈ l ↔ x ∈ m) : l = m := pw_ext (fun a b h k => ilt_as (a := (a.rep, a.seq)) (b := (b.rep, b.seq)) h k) hl hm h
theorem sortO_pw {l : List Obj} : SortO l ↔ l.Pairwise fun a b => ilt a.id b.id = true := by
 unfold SortO SortE; rw [List.pairwise_map]; exact Iff.rfl
theorem sortO_ext {l m : List Obj} (hl : SortO l) (hm : SortO m) (h : ∀ x, x ∈ l ↔ x ∈ m) : l = m := pw_ext (fun a b h k => ilt_as h k) (sortO_pw.1 hl) (sortO_pw.1 hm) h
structure Acc (s : St) (e : Evt) : Prop where
 ck : checkB e = true
 new : hasB s.known e.rep e.seq = false
 dep : vLe e.dep s.known
 ret : s.ret (e.rep - 1).toNat = false
 why : whyD s e = 0
theorem acc_iff {s : St} {e : Evt} : whyS s e = 0 ↔ Acc s e := by
 unfold whyS
 constructor
 · intro h
   split at h
   · cases h
   · split at h
     · cases h
     · split at h
       · cases h
       · split at h
         · cases h
         · rename_i h1 h2 h3 h4
           exact ⟨by simpa using h1, by simpa using h2, by simpa using h3, by simpa using h4, h⟩
 · intro ⟨h1, h2, h3, h4, h5⟩
   rw [if_neg (by rw [h1]; simp), if_neg (by rw [h2]; simp), if_neg (fun q => q h3), if_neg (by rw [h4]; simp)]
   exact h5
inductive Val : List Evt → Prop
 | nil : Val []
 | snoc {l : List Evt} {e : Evt} : Val l → ev e → whyS (buildS l) e = 0 → Val (l ++ [e])
theorem bld_known (l : List Evt) : (buildS l).known = knownG l := (bld_ents l l).2
theorem bld_entsS (l : List Evt) : (buildS l).ents = entsG l l := (bld_ents l l).1
theorem Val.inv {l : List Evt} {e : Evt} (h : Val (l ++ [e])) : Val l ∧ ev e ∧ whyS (buildS l) e = 0 := by
 generalize hm : l ++ [e] = m at h
 cases h with
 | nil => simp at hm
 | snoc a b c =>
   obtain ⟨rfl, h2⟩ := List.append_inj' hm rfl
   cases h2
   exact ⟨a, b, c⟩
theorem Val.pre {l m : List Evt} : Val (l ++ m) → Val l :=
 snocR (P := fun m => Val (l ++ m) → Val l) (fun h => by simpa using h) (fun m e ih h => by
  rw [← List.append_assoc] at h
  exact ih h.inv.1) m
theorem hasB_iff {a : Vc} {i : Idn} : hasB a i.1 i.2 = true ↔ 1 ≤ i.2 ∧ 1 ≤ i.1 ∧ i.1 ≤ 8 ∧ i.2 ≤ a (i.1 - 1).toNat := by
 refine ⟨hasB_pos, fun ⟨h1, h2, h3, h4⟩ => ?_⟩
 unfold hasB getV; rw [if_pos ⟨h2, h3⟩]; exact decide_eq_true ⟨h1, h4⟩
theorem withV_at {v : Vc} {r : Int} {q : Nat} (hr : 1 ≤ r ∧ r ≤ 8) (i : Nat) : withV v r q i = if i = (r - 1).toNat then max (v i) q else v i := by
 unfold withV setV; rw [if_pos hr]; split
 · rename_i h; rw [h]
 · rfl
theorem with_le {v : Vc} {r : Int} {q : Nat} (i : Nat) : v i ≤ withV v r q i := by
 by_cases hr : 1 ≤ r ∧ r ≤ 8
 · rw [withV_at hr]; split <;> omega
 · unfold withV; rw [if_neg hr]; exact Nat.le_refl _
theorem has_mono {a b : Vc} (h : ∀ i, i < 8 → a i ≤ b i) {i : Idn} (k : hasB a i.1 i.2 = true) : hasB b i.1 i.2 = true := by
 rw [hasB_iff] at k ⊢
 have := h (i.1 - 1).toNat (by omega)
 omega
theorem acc_next {s : St} {e : Evt} (h : Acc s e) : 1 ≤ e.rep ∧ e.rep ≤ 8 ∧ e.seq = s.known (e.rep - 1).toNat + 1 := by
 obtain ⟨b1, b2, b3, b4, b5, b6, b7⟩ := check_base h.ck
 have h1 := h.dep (e.rep - 1).toNat (by omega)
 have h2 : ¬ hasB s.known e.rep e.seq = true := by rw [h.new]; simp
 rw [show hasB s.known e.rep e.seq = hasB s.known (evId e).1 (evId e).2 from rfl, hasB_iff] at h2
 simp only at h2
 omega
theorem Val.known {l : List Evt} (h : Val l) : NodE l ∧ ∀ i : Idn, hasB (knownG l) i.1 i.2 = true ↔ ∃ e ∈ l, evId e = i := by
 induction h with
 | nil => exact ⟨List.nodup_nil, fun i => by rw [hasB_iff]; simp [knownG]; omega⟩
 | @snoc l e hl he hw ih =>
   have ha := acc_iff.1 hw
   obtain ⟨n1, n2, n3⟩ := acc_next ha
   have hb := check_base ha.ck
   rw [bld_known] at n3
   have hnew : ¬ ∃ f ∈ l, evId f = evId e := fun q => by
    have := (ih.2 (evId e)).2 q
    have h2 := ha.new
    rw [bld_known] at h2
    rw [show hasB (knownG l) (evId e).1 (evId e).2 = hasB (knownG l) e.rep e.seq from rfl, h2] at this
    cases this
   refine ⟨?_, fun i => ?_⟩
   · unfold NodE
     rw [List.map_append, List.nodup_append]
     refine ⟨ih.1, by simp, fun a hm b hb q => hnew ?_⟩
     obtain ⟨f, hf, rfl⟩ := List.mem_map.1 hm
     simp at hb
     exact ⟨f, hf, by rw [q, hb]⟩
   · rw [knownG_snoc]
     have key : hasB (withV (knownG l) e.rep e.seq) i.1 i.2 = true ↔ hasB (knownG l) i.1 i.2 = true ∨ i = evId e := by
      rw [hasB_iff, hasB_iff, withV_at ⟨n1, n2⟩]
      by_cases hi : i = evId e
      · subst hi
        simp only [or_true, iff_true]
        refine ⟨hb.2.2.1, n1, n2, ?_⟩
        simp only [if_true]; exact Nat.le_max_right _ _
      · simp only [hi, or_false]
        by_cases hr : i.1 = e.rep
        · have hq : i.2 ≠ e.seq := fun q => hi (Prod.ext hr q)
          rw [hr, if_pos rfl]
          omega
        · constructor
          · rintro ⟨a, b, c, d⟩
            rw [if_neg (by omega)] at d
            exact ⟨a, b, c, d⟩
          · rintro ⟨a, b, c, d⟩
            rw [if_neg (by omega)]
            exact ⟨a, b, c, d⟩
     rw [key, ih.2]
     constructor
     · rintro (⟨f, hf, q⟩ | q)
       · exact ⟨f, by simp [hf], q⟩
       · exact ⟨e, by simp, q.symm⟩
     · rintro ⟨f, hf, q⟩
       rcases List.mem_append.1 hf with hf | hf
       · exact .inl ⟨f, hf, q⟩
       · rw [List.mem_singleton] at hf; subst hf; exact .inr q.symm
theorem Val.nod {l : List Evt} (h : Val l) : NodE l := h.known.1
theorem Val.has {l : List Evt} (h : Val l) {i : Idn} : hasB (knownG l) i.1 i.2 = true ↔ ∃ e ∈ l, evId e = i := h.known.2 i
theorem Val.mem {l : List Evt} (h : Val l) {e : Evt} (he : e ∈ l) : ∃ a b, l = a ++ e :: b ∧ Val a ∧ ev e ∧ Acc (buildS a) e := by
 obtain ⟨a, b, rfl⟩ := List.append_of_mem he
 have h2 : Val ((a ++ [e]) ++ b) := by rw [List.append_assoc]; exact h
 obtain ⟨h3, h4, h5⟩ := h2.pre.inv
 exact ⟨a, b, rfl, h3, h4, acc_iff.1 h5⟩
theorem acc_has {l : List Evt} (h : Val l) {e : Evt} (ha : Acc (buildS l) e) {i : Idn} (k : hasB e.dep i.1 i.2 = true) : ∃ f ∈ l, evId f = i := by
 refine h.has.1 (has_mono (fun j hj => ?_) k)
 have := ha.dep j hj
 rwa [bld_known] at this
theorem acc_new {l : List Evt} (h : Val l) {e : Evt} (ha : Acc (buildS l) e) : ∀ f ∈ l, evId f ≠ evId e := fun f hf q => by
 have h1 := h.has.2 ⟨f, hf, q⟩
 have h2 := ha.new
 rw [bld_known] at h2
 rw [show hasB (knownG l) (evId e).1 (evId e).2 = hasB (knownG l) e.rep e.seq from rfl, h2] at h1
 cases h1
theorem ids_has {e : Evt} {l : List Idn} {n : Int} (h : idsB l n e.dep = true) : ∀ b ∈ l, hasB e.dep b.1 b.2 = true := fun b hb => by
 unfold idsB riseB at h
 simp only [Bool.and_eq_true, decide_eq_true_eq] at h
 obtain ⟨j, hj⟩ := List.mem_iff_getElem?.1 hb
 obtain ⟨hlt, hg⟩ := List.getElem?_eq_some_iff.1 hj
 have := (h.2 j hlt).1
 rw [hg] at this; exact this
theorem check_k' {e : Evt} (h : checkB e = true) : kindK e = true ∧ zerosB (bareE e) = true := by
 unfold checkB at h
 simp only [Bool.and_eq_true, decide_eq_true_eq] at h
 exact ⟨h.2.2.2, h.2.2.1⟩
theorem check_gone {e : Evt} (h : checkB e = true) (hk : e.kind = 6 ∨ e.kind = 7) : ∀ b ∈ e.gone.l, hasB e.dep b.1 b.2 = true := by
 have hK := (check_k' h).1
 rcases hk with k | k
 · rw [kindK_6 k] at hK; simp only [Bool.and_eq_true] at hK; exact ids_has hK.2
 · rw [kindK_7 k] at hK; simp only [Bool.and_eq_true] at hK; exact ids_has hK.2.1
theorem check_obj {e : Evt} (h : checkB e = true) (hk : e.kind = 3 ∨ e.kind = 4 ∨ e.kind = 5 ∨ e.kind = 6 ∨ e.kind = 7) : hasB e.dep e.orep e.oseq = true := by
 have hK := (check_k' h).1
 rcases hk with k | k | k | k | k
 · rw [kindK_3 k] at hK; simp only [Bool.and_eq_true] at hK; exact hK.1
 · rw [kindK_4 k] at hK; simp only [Bool.and_eq_true] at hK; exact hK.1
 · rw [kindK_5 k] at hK; simp only [Bool.and_eq_true] at hK; exact hK.1
 · rw [kindK_6 k] at hK; simp only [Bool.and_eq_true] at hK; exact hK.1
 · rw [kindK_7 k] at hK; simp only [Bool.and_eq_true] at hK; exact hK.1
theorem check_obj0 {e : Evt} (h : checkB e = true) (hk : ¬ (e.kind = 3 ∨ e.kind = 4 ∨ e.kind = 5 ∨ e.kind = 6 ∨ e.kind = 7)) : evObj e = (0, 0) := by
 obtain ⟨b1, b2, b3, b4, b5, b6, b7⟩ := check_base h
 have hz := (check_k' h).2
 have h4 : e.kind = 1 ∨ e.kind = 2 ∨ e.kind = 8 ∨ e.kind = 9 := by omega
 have hz' : zeroB e.orep e.oseq = true := by
  rcases h4 with k | k | k | k
  · rw [zb_1 k] at hz; simp only [madeB, Bool.and_eq_true, Bool.or_eq_true, Bool.false_eq_true, false_or] at hz; exact hz.1
  · rw [zb_2 k] at hz; simp only [madeB, Bool.and_eq_true, Bool.or_eq_true, Bool.false_eq_true, false_or] at hz; exact hz.1
  · rw [zb_8 k] at hz; simp only [madeB, Bool.and_eq_true, Bool.or_eq_true, Bool.false_eq_true, false_or] at hz; exact hz.1
  · rw [zb_9 k] at hz; simp only [madeB, Bool.and_eq_true, Bool.or_eq_true, Bool.false_eq_true, false_or] at hz; exact hz.1
 obtain ⟨h1, h2⟩ := of_decide_eq_true hz'
 exact Prod.ext h1 h2
theorem no_gone {l : List Evt} {e : Evt} (h : Val l) (ha : Acc (buildS l) e) (obj : Idn) {g : Evt} (hg : g ∈ l ++ [e]) : goF g obj (evId e) = false := by
 cases hq : goF g obj (evId e) with
 | false => rfl
 | true =>
   unfold goF at hq
   simp only [Bool.and_eq_true, decide_eq_true_eq] at hq
   rcases List.mem_append.1 hg with hg | hg
   · obtain ⟨a, b, rfl, h1, _, h3⟩ := h.mem hg
     obtain ⟨f, hf, hi⟩ := acc_has h1 h3 (check_gone h3.ck hq.1 _ hq.2.2)
     exact absurd hi (acc_new h ha f (by simp [hf]))
   · rw [List.mem_singleton] at hg; subst hg
     obtain ⟨f, hf, hi⟩ := acc_has h ha (check_gone ha.ck hq.1 _ hq.2.2)
     exact absurd hi (acc_new h ha f hf)
theorem no_obj {l : List Evt} {e : Evt} (h : Val l) (ha : Acc (buildS l) e) {g : Evt} (hg : g ∈ l ++ [e]) : evObj g ≠ evId e := fun q => by
 have base := check_base ha.ck
 have hne : ∀ {g : Evt}, checkB g = true → evObj g = evId e → hasB g.dep g.orep g.oseq = true := fun {g} hc q => by
  refine check_obj hc (Classical.byContradiction fun hk => ?_)
  have := check_obj0 hc hk
  rw [this] at q
  have q1 : (0 : Int) = e.rep := congrArg Prod.fst q
  have := base.1
  omega
 rcases List.mem_append.1 hg with hg | hg
 · obtain ⟨a, b, rfl, h1, _, h3⟩ := h.mem hg
   obtain ⟨f, hf, hi⟩ := acc_has h1 h3 (i := evObj g) (hne h3.ck q)
   rw [q] at hi
   exact absurd hi (acc_new h ha f (by simp [hf]))
 · rw [List.mem_singleton] at hg; subst hg
   obtain ⟨f, hf, hi⟩ := acc_has h ha (i := evObj g) (hne ha.ck q)
   rw [q] at hi
   exact absurd hi (acc_new h ha f hf)
theorem mem_entsG {l : List Evt} : ∀ m : List Evt, NodE m → SortE (entsG l m) ∧ ∀ x, x ∈ entsG l m ↔ ∃ e ∈ m, mkB e = true ∧ x = entB l e := by
 refine snocR (fun _ => ⟨List.Pairwise.nil, by simp [entsG]⟩) fun m e ih hn => ?_
 have hn' : NodE m := by unfold NodE at *; rw [List.map_append] at hn; exact hn.sublist (List.sublist_append_left _ _)
 obtain ⟨h1, h2⟩ := ih hn'
 have grow : ∀ x : Ent, (∃ f ∈ m ++ [e], mkB f = true ∧ x = entB l f) ↔ (∃ f ∈ m, mkB f = true ∧ x = entB l f) ∨ (mkB e = true ∧ x = entB l e) := fun o => by
  simp only [List.mem_append, List.mem_singleton]
  constructor
  · rintro ⟨f, hf | rfl, h⟩
    · exact .inl ⟨f, hf, h⟩
    · exact .inr h
  · rintro (⟨f, hf, h⟩ | h)
    · exact ⟨f, .inl hf, h⟩
    · exact ⟨e, .inr rfl, h⟩
 rw [entsG_snoc]
 by_cases hm : mkB e = true
 · rw [if_pos hm, putGo_put h1]
   have hnew : look (entsG l m) (entB l e).id = none := look_none.2 fun x hx q => by
    obtain ⟨f, hf, _, rfl⟩ := (h2 x).1 hx
    unfold NodE at hn
    rw [List.map_append, List.nodup_append] at hn
    exact hn.2.2 (evId f) (List.mem_map_of_mem hf) (evId e) (by simp) q
   have e1 : putL (entsG l m) (entB l e) = insE (entsG l m) (entB l e) := by
    unfold putL; rw [if_neg (by rw [isE_f.2 hnew]; simp)]
   rw [e1]
   refine ⟨sort_ins h1 hnew, fun x => ?_⟩
   rw [mem_ins, h2, grow]
   exact ⟨fun q => q.elim (fun q => .inr ⟨hm, q⟩) .inl, fun q => q.elim .inr fun q => .inl q.2⟩
 · rw [if_neg hm]
   refine ⟨h1, fun x => ?_⟩
   rw [h2, grow]
   exact ⟨.inl, fun q => q.resolve_right fun q => hm q.1⟩
theorem killF_idem (b : Idn) (x : Ent) : killF b (killF b x) = killF b x := by
 unfold killF; simp only [vJoin_assoc, vJoin_idem]
theorem goneE_map (e : Evt) : ∀ (m l : List Ent), goneE e l m = l.map fun x => if m.any (fun y => decide (y.id = x.id) && goesB e y) = true then killF (evId e) x else x
 | [], l => by simp [goneE]
 | y :: m, l => by
   have ih := goneE_map e m (if goesB e y = true then killL l y.id (evId e) else l)
   unfold goneE at ih ⊢
   simp only [List.foldl_cons]
   rw [ih]
   split
   · rename_i hg
     unfold killL modE
     rw [List.map_map]
     refine List.map_congr_left fun x hx => ?_
     simp only [Function.comp]
     by_cases hy : x.id = y.id
     · simp only [if_pos hy]
       have e2 : List.any (y :: m) (fun z => decide (z.id = x.id) && goesB e z) = true := by simp [hy, hg]
       rw [if_pos e2]
       split
       · exact killF_idem _ _
       · rfl
     · simp only [if_neg hy]
       have e2 : List.any (y :: m) (fun z => decide (z.id = x.id) && goesB e z) = List.any m (fun z => decide (z.id = x.id) && goesB e z) := by
        rw [List.any_cons, decide_eq_false (fun q : y.id = x.id => hy q.symm), Bool.false_and, Bool.false_or]
       rw [e2]
   · rename_i hg
     refine List.map_congr_left fun x hx => ?_
     have e2 : List.any (y :: m) (fun z => decide (z.id = x.id) && goesB e z) = List.any m (fun z => decide (z.id = x.id) && goesB e z) := by
      simp [show goesB e y = false by simpa using hg]
     rw [e2]
theorem goneE_eq {e : Evt} {l : List Ent} (hs : SortE l) : goneE e l l = l.map fun x => if goesB e x = true then killF (evId e) x else x := by
 rw [goneE_map]
 refine List.map_congr_left fun x hx => ?_
 have : l.any (fun y => decide (y.id = x.id) && goesB e y) = goesB e x := by
  rw [Bool.eq_iff_iff, List.any_eq_true]
  constructor
  · rintro ⟨y, hy, h⟩
    simp only [Bool.and_eq_true, decide_eq_true_eq] at h
    have h1 := look_mem hs hy
    have h2 := look_mem hs hx
    rw [h.1] at h1
    rw [h1] at h2; cases h2
    exact h.2
  · exact fun h => ⟨x, hx, by simp [h]⟩
 rw [this]
theorem byG_new {l : List Evt} {e : Evt} (h : Val l) (ha : Acc (buildS l) e) (obj : Idn) : byG (l ++ [e]) obj (evId e) = fun _ => 0 := by
 unfold byG
 have : ∀ m : List Evt, (∀ g ∈ m, goF g obj (evId e) = false) → m.foldl (fun g f => if goF f obj (evId e) = true then withV g f.rep f.seq else g) (fun _ => 0 : Vc) = fun _ => 0 := fun m hm => by
  induction m with
  | nil => rfl
  | cons g m ih =>
    rw [List.foldl_cons, if_neg (by rw [hm g List.mem_cons_self]; simp)]
    exact ih fun f hf => hm f (List.mem_cons_of_mem _ hf)
 exact this _ fun g hg => no_gone h ha obj hg
theorem entB_new {l : List Evt} {e : Evt} (h : Val l) (ha : Acc (buildS l) e) : entB (l ++ [e]) e = newEnt e (objI e) := by
 unfold entB newEnt; rw [byG_new h ha]
theorem entB_old (l : List Evt) (e f : Evt) : entB (l ++ [e]) f = if goF e (objI f) (evId f) = true then killF (evId e) (entB l f) else entB l f := by
 unfold entB
 rw [byG_snoc]
 split
 · unfold killF; simp only
   rw [show withV (byG l (objI f) (evId f)) e.rep e.seq = withV (byG l (objI f) (evId f)) (evId e).1 (evId e).2 from rfl, withV_eq]
 · rfl
theorem goesB_entB (l : List Evt) (e f : Evt) (hk : e.kind = 6 ∨ e.kind = 7) : goF e (objI f) (evId f) = goesB e (entB l f) := by
 unfold goF goesB entB
 simp only [hk, decide_true, Bool.true_and]
 congr 1
 exact decide_eq_decide.2 ⟨Eq.symm, Eq.symm⟩
theorem ents_snoc {l : List Evt} {e : Evt} (h : Val l) (ha : Acc (buildS l) e) :
 entsG (l ++ [e]) (l ++ [e]) = if e.kind = 1 ∨ e.kind = 2 then addL (entsG l l) (newEnt e (evId e)) else if e.kind = 7 then addL (goneE e (entsG l l) (entsG l l)) (newEnt e (evObj e)) else if e.kind = 6 then goneE e (entsG l l) (entsG l l) else entsG l l := by
 have hn := h.nod
 have hn2 : NodE (l ++ [e]) := by
  unfold NodE
  rw [List.map_append, List.nodup_append]
  refine ⟨hn, by simp, fun a hm b hb q => ?_⟩
  obtain ⟨f, hf, rfl⟩ := List.mem_map.1 hm
  simp at hb
  exact acc_new h ha f hf (by rw [q, hb])
 obtain ⟨s1, m1⟩ := mem_entsG (l := l) l hn
 obtain ⟨s2, m2⟩ := mem_entsG (l := l ++ [e]) (l ++ [e]) hn2
 have hlook : ∀ {m : List Ent}, (∀ x ∈ m, ∃ f ∈ l, x.id = evId f) → look m (evId e) = none := fun hm => look_none.2 fun x hx q => by
  obtain ⟨f, hf, hi⟩ := hm x hx
  exact acc_new h ha f hf (by rw [← hi, q])
 have hadd : ∀ {m : List Ent} {o : Idn}, SortE m → (∀ x ∈ m, ∃ f ∈ l, x.id = evId f) → SortE (addL m (newEnt e o)) ∧ ∀ x, x ∈ addL m (newEnt e o) ↔ x = newEnt e o ∨ x ∈ m := fun {m o} hs hm => by
  have hl := hlook hm
  have e1 : addL m (newEnt e o) = insE m (newEnt e o) := by unfold addL; rw [if_neg (by rw [show isE m (newEnt e o).id = false from isE_f.2 hl]; simp)]
  rw [e1]
  exact ⟨sort_ins hs hl, fun x => mem_ins⟩
 have hold : ∀ x ∈ entsG l l, ∃ f ∈ l, x.id = evId f := fun x hx => by
  obtain ⟨f, hf, _, rfl⟩ := (m1 x).1 hx; exact ⟨f, hf, rfl⟩
 have hgone := goneE_sort (e := e) s1 (entsG l l)
 have hgeq := goneE_eq (e := e) s1
 have hgold : ∀ x ∈ goneE e (entsG l l) (entsG l l), ∃ f ∈ l, x.id = evId f := fun x hx => by
  rw [hgeq] at hx
  obtain ⟨y, hy, rfl⟩ := List.mem_map.1 hx
  obtain ⟨f, hf, hi⟩ := hold y hy
  refine ⟨f, hf, ?_⟩
  split <;> exact hi
 have mG : (e.kind = 6 ∨ e.kind = 7) → ∀ x, x ∈ goneE e (entsG l l) (entsG l l) ↔ ∃ f ∈ l, mkB f = true ∧ x = entB (l ++ [e]) f := fun hk x => by
  rw [hgeq, List.mem_map]
  constructor
  · rintro ⟨y, hy, rfl⟩
    obtain ⟨f, hf, hm, rfl⟩ := (m1 y).1 hy
    exact ⟨f, hf, hm, by rw [entB_old, goesB_entB l e f hk]⟩
  · rintro ⟨f, hf, hm, rfl⟩
    exact ⟨entB l f, (m1 _).2 ⟨f, hf, hm, rfl⟩, by rw [entB_old, goesB_entB l e f hk]⟩
 have mN : ¬ (e.kind = 6 ∨ e.kind = 7) → ∀ x, x ∈ entsG l l ↔ ∃ f ∈ l, mkB f = true ∧ x = entB (l ++ [e]) f := fun hk x => by
  rw [m1]
  have : ∀ f, entB (l ++ [e]) f = entB l f := fun f => by
   rw [entB_old, if_neg (by unfold goF; simp [hk])]
  exact ⟨fun ⟨f, a, b, c⟩ => ⟨f, a, b, by rw [this, c]⟩, fun ⟨f, a, b, c⟩ => ⟨f, a, b, by rw [← this, c]⟩⟩
 have grow : ∀ x : Ent, (∃ f ∈ l ++ [e], mkB f = true ∧ x = entB (l ++ [e]) f) ↔ (mkB e = true ∧ x = newEnt e (objI e)) ∨ (∃ f ∈ l, mkB f = true ∧ x = entB (l ++ [e]) f) := fun x => by
  rw [← entB_new h ha]
  simp only [List.mem_append, List.mem_singleton]
  constructor
  · rintro ⟨f, hf | rfl, h⟩
    · exact .inr ⟨f, hf, h⟩
    · exact .inl h
  · rintro (h | ⟨f, hf, h⟩)
    · exact ⟨e, .inr rfl, h⟩
    · exact ⟨f, .inl hf, h⟩
 by_cases h12 : e.kind = 1 ∨ e.kind = 2
 · rw [if_pos h12]
   have hm : mkB e = true := decide_eq_true (by omega)
   have ho : objI e = evId e := if_neg (by omega)
   obtain ⟨a1, a2⟩ := hadd (o := evId e) s1 hold
   refine sortE_ext s2 a1 fun x => ?_
   rw [m2, grow, a2, mN (by omega), ho]
   simp [hm]
 rw [if_neg h12]
 by_cases h7 : e.kind = 7
 · rw [if_pos h7]
   have hm : mkB e = true := decide_eq_true (by omega)
   have ho : objI e = evObj e := if_pos h7
   obtain ⟨a1, a2⟩ := hadd (o := evObj e) hgone hgold
   refine sortE_ext s2 a1 fun x => ?_
   rw [m2, grow, a2, mG (.inr h7), ho]
   simp [hm]
 rw [if_neg h7]
 have hm : mkB e = false := decide_eq_false (by omega)
 by_cases h6 : e.kind = 6
 · rw [if_pos h6]
   refine sortE_ext s2 hgone fun x => ?_
   rw [m2, grow, mG (.inl h6)]
   simp [hm]
 · rw [if_neg h6]
   refine sortE_ext s2 s1 fun x => ?_
   rw [m2, grow, mN (by omega)]
   simp [hm]
theorem val_nod {l : List Evt} {e : Evt} (h : Val l) (ha : Acc (buildS l) e) : NodE (l ++ [e]) := by
 unfold NodE
 rw [List.map_append, List.nodup_append]
 refine ⟨h.nod, by simp, fun a hm b hb q => ?_⟩
 obtain ⟨f, hf, rfl⟩ := List.mem_map.1 hm
 simp at hb
 exact acc_new h ha f hf (by rw [q, hb])
theorem findL_mem {l : List Evt} (hn : NodE l) {e : Evt} (he : e ∈ l) : findL l (evId e) = some e := by
 unfold findL
 induction l with
 | nil => cases he
 | cons f l ih =>
   unfold NodE at hn
   rw [List.map_cons, List.nodup_cons] at hn
   rw [List.find?_cons]
   rcases List.mem_cons.1 he with rfl | he
   · simp
   · have : evId f ≠ evId e := fun q => hn.1 (q ▸ List.mem_map_of_mem he)
     rw [decide_eq_false this]
     exact ih hn.2 he
theorem findL_app {l : List Evt} {i : Idn} (t : List Evt) (h : ∃ f ∈ l, evId f = i) : findL (l ++ t) i = findL l i := by
 obtain ⟨f, hf, hi⟩ := h
 unfold findL
 rw [List.find?_append]
 cases hq : List.find? (fun e => decide (evId e = i)) l with
 | some x => rfl
 | none => exact absurd hi (by simpa using List.find?_eq_none.1 hq f hf)
theorem objB_vers (l : List Evt) (e : Evt) : ∀ m : List Evt, (objB l m e).vers = versG l (evId e) l :=
 snocR rfl fun m f ih => by
  rw [objB_snoc]
  unfold stepO
  split
  · split
    · split <;> exact ih
    · split <;> exact ih
  · exact ih
theorem mem_objs {l : List Evt} (hn : NodE l) : SortO (buildS l).objs ∧ (buildS l).objs.length ≤ l.length ∧ ∀ o, o ∈ (buildS l).objs ↔ ∃ e ∈ l, (e.kind = 1 ∨ e.kind = 2) ∧ o = objB l l e := bld_objs l.length l rfl hn
theorem objAt_mem {l : List Obj} (hs : SortO l) {o : Obj} (h : o ∈ l) : objAt l o.id = some o := by
 rw [objAt_find hs]
 cases hq : l.find? fun x => decide (x.id = o.id) with
 | none => have := List.find?_eq_none.1 hq o h; simp at this
 | some x =>
   have h1 := List.mem_of_find?_eq_some hq
   have h2 : x.id = o.id := by simpa using List.find?_some hq
   have a := look_mem (l := l.map obN) hs (List.mem_map_of_mem h1)
   obtain ⟨j, hj⟩ := List.mem_iff_getElem?.1 h1
   obtain ⟨k, hk⟩ := List.mem_iff_getElem?.1 h
   have : j = k := by
    rcases Nat.lt_trichotomy j k with q | q | q
    · have := sortO_get hs hj hk q; rw [h2] at this; exact absurd this ilt_irr
    · exact q
    · have := sortO_get hs hk hj q; rw [h2] at this; exact absurd this ilt_irr
   subst this
   rw [hj] at hk; exact hk
theorem objAt_mem' {l : List Obj} {i : Idn} {o : Obj} (h : objAt l i = some o) : o ∈ l ∧ o.id = i := ⟨List.mem_of_getElem? (objAt_some h).1, (objAt_some h).2⟩
theorem acc_obj {l : List Evt} {e : Evt} (h : Val l) (ha : Acc (buildS l) e) (hk : e.kind = 3 ∨ e.kind = 4 ∨ e.kind = 5 ∨ e.kind = 6 ∨ e.kind = 7) : ∃ f ∈ l, (f.kind = 1 ∨ f.kind = 2) ∧ evId f = evObj e ∧ objAt (buildS l).objs (evObj e) = some (objB l l f) ∧ (wrB e = true → (objB l l f).dir = false ∧ ¬ missing (versG l (evObj e) l) e.base.l) := by
 have hw := ha.why
 unfold whyD at hw
 rw [if_neg (by omega), if_neg (by omega)] at hw
 cases ho : objAt (buildS l).objs (evObj e) with
 | none => rw [ho] at hw; cases hw
 | some o =>
   rw [ho] at hw
   obtain ⟨h1, h2⟩ := objAt_mem' ho
   obtain ⟨f, hf, hk12, rfl⟩ := ((mem_objs h.nod).2.2 o).1 h1
   have h2' : evId f = evObj e := by rw [← objB_id l f l]; exact h2
   refine ⟨f, hf, hk12, h2', rfl, fun hwr => ?_⟩
   have hk3 := of_decide_eq_true hwr
   simp only at hw
   rw [if_neg (by omega), if_neg (by omega)] at hw
   split at hw
   · cases hw
   · split at hw
     · cases hw
     · rename_i hd hm
       rw [objB_vers, h2'] at hm
       exact ⟨by simpa using hd, hm⟩
theorem acc_base {l : List Evt} {e : Evt} (h : Val l) (ha : Acc (buildS l) e) (hw : wrB e = true) : ∀ b ∈ e.base.l, ∃ v, findV (versG l (evObj e) l) b.1 b.2 = some v ∧ ∃ g ∈ l, wrB g = true ∧ evObj g = evObj e ∧ evId g = b ∧ v = verB l l g := fun b hb => by
 have hk3 := of_decide_eq_true hw
 obtain ⟨f, hf, hk, hi, ho, hm⟩ := acc_obj h ha (by omega)
 obtain ⟨_, hm⟩ := hm hw
 cases hv : findV (versG l (evObj e) l) b.1 b.2 with
 | none => exact absurd ⟨b, hb, hv⟩ hm
 | some v =>
   obtain ⟨h1, h2⟩ := findV_mem hv
   obtain ⟨g, hg, ⟨hw, ho⟩, rfl⟩ := (versG_mem l.length l rfl).1 h1
   exact ⟨_, rfl, g, hg, hw, ho, Prod.ext h2.1 h2.2, rfl⟩
noncomputable def wasB (l : List Evt) (e : Evt) : List UInt8 := match e.base.l with
 | [] => []
 | b :: _ => bytesD l l.length b
theorem check_data {e : Evt} (h : checkB e = true) (hw : wrB e = true) : e.data.length ≤ 200 := by
 have hK := check_k' h
 have hk := of_decide_eq_true hw
 rcases hk with k | k | k
 · have h1 := hK.1
   rw [kindK_3 k] at h1
   simp only [Bool.and_eq_true, sizeB, decide_eq_true_eq] at h1
   omega
 · have h1 := hK.2
   rw [zb_4 k] at h1
   simp only [madeB, Bool.and_eq_true, Bool.or_eq_true, decide_eq_true_eq, Bool.false_eq_true, false_or, true_or] at h1
   have : e.data = [] := h1.2.2.2.2.2.1
   rw [this]; simp
 · have h1 := hK.1
   rw [kindK_5 k] at h1
   simp only [Bool.and_eq_true, sizeB, decide_eq_true_eq] at h1
   omega
theorem stepW_200 {e : Evt} (h : checkB e = true) (hw : wrB e = true) {was : List UInt8} (hl : was.length ≤ 200) : (stepW e was).length ≤ 200 := by
 have hd := check_data h hw
 unfold stepW
 split
 · exact hd
 · split
   · unfold cutW; split
     · simp
     · rw [cutB_len]; omega
   · unfold patchW; split
     · simp
     · rename_i h; unfold patchBad at h; rw [patchB_len]; omega
theorem val_bytes {l : List Evt} (h : Val l) : ∀ g ∈ l, wrB g = true → (bytesD l l.length (evId g)).length ≤ 200 ∧ ∀ t n, l.length ≤ n → bytesD (l ++ t) n (evId g) = bytesD l l.length (evId g) := by
 induction h with
 | nil => intro g hg; cases hg
 | @snoc l e hl he hw ih =>
   have ha := acc_iff.1 hw
   intro g hg hgw
   have hlen : (l ++ [e]).length = l.length + 1 := by simp
   rcases List.mem_append.1 hg with hg | hg
   · obtain ⟨h1, h2⟩ := ih g hg hgw
     have e1 : bytesD (l ++ [e]) (l ++ [e]).length (evId g) = bytesD l l.length (evId g) := h2 [e] _ (by omega)
     rw [e1]
     refine ⟨h1, fun t n hn => ?_⟩
     rw [List.append_assoc]
     exact h2 _ n (by omega)
   · rw [List.mem_singleton] at hg; subst hg
     have key : ∀ t n, (l ++ [g]).length ≤ n → bytesD ((l ++ [g]) ++ t) n (evId g) = stepW g (wasB l g) := fun t n hn => by
      obtain ⟨n, rfl⟩ : ∃ k, n = k + 1 := ⟨n - 1, by omega⟩
      simp only [bytesD]
      rw [findL_app t ⟨g, by simp, rfl⟩, findL_mem (val_nod hl ha) (by simp)]
      simp only
      congr 1
      unfold wasB
      cases hb : g.base.l with
      | nil => rfl
      | cons b r =>
        simp only
        obtain ⟨v, hv, f, hf, hfw, _, rfl, _⟩ := acc_base hl ha hgw b (by rw [hb]; simp)
        rw [List.append_assoc]
        exact (ih f hf hfw).2 _ n (by omega)
     have e1 : bytesD (l ++ [g]) (l ++ [g]).length (evId g) = stepW g (wasB l g) := by
      have := key [] (l ++ [g]).length (Nat.le_refl _)
      rwa [List.append_nil] at this
     rw [e1]
     refine ⟨stepW_200 ha.ck hgw ?_, key⟩
     unfold wasB
     cases hb : g.base.l with
     | nil => simp
     | cons b r =>
       simp only
       obtain ⟨v, hv, f, hf, hfw, _, rfl, _⟩ := acc_base hl ha hgw b (by rw [hb]; simp)
       exact (ih f hf hfw).1
theorem bytes_new {l : List Evt} {e : Evt} (h : Val l) (ha : Acc (buildS l) e) (hw : wrB e = true) : bytesD (l ++ [e]) (l ++ [e]).length (evId e) = stepW e (wasB l e) := by
 rw [show (l ++ [e]).length = l.length + 1 from by simp]
 simp only [bytesD]
 rw [findL_mem (val_nod h ha) (by simp)]
 simp only
 congr 1
 unfold wasB
 cases hb : e.base.l with
 | nil => rfl
 | cons b r =>
   simp only
   obtain ⟨v, hv, f, hf, hfw, _, rfl, _⟩ := acc_base h ha hw b (by rw [hb]; simp)
   exact (val_bytes h f hf hfw).2 _ _ (Nat.le_refl _)
theorem verB_old {l : List Evt} {e : Evt} (h : Val l) {g : Evt} (hg : g ∈ l) (hw : wrB g = true) : verB (l ++ [e]) (l ++ [e]) g = if gvF e (evObj g) (evId g) = true then markV (verB l l g) e.rep e.seq else verB l l g := by
 have hb := (val_bytes h g hg hw).2 [e] (l ++ [e]).length (by simp)
 unfold verB
 rw [hb, gvG_snoc]
 split <;> rfl
theorem no_base {l : List Evt} {e : Evt} (h : Val l) (ha : Acc (buildS l) e) (obj : Idn) {g : Evt} (hg : g ∈ l ++ [e]) : gvF g obj (evId e) = false := by
 cases hq : gvF g obj (evId e) with
 | false => rfl
 | true =>
   unfold gvF at hq
   simp only [Bool.and_eq_true, decide_eq_true_eq] at hq
   rcases List.mem_append.1 hg with hg | hg
   · obtain ⟨a, b, rfl, h1, _, h3⟩ := h.mem hg
     obtain ⟨_, _, f, hf, _, _, hi, _⟩ := acc_base h1 h3 hq.1 _ hq.2.2
     exact absurd hi (acc_new h ha f (by simp [hf]))
   · rw [List.mem_singleton] at hg; subst hg
     obtain ⟨_, _, f, hf, _, _, hi, _⟩ := acc_base h ha hq.1 _ hq.2.2
     exact absurd hi (acc_new h ha f hf)
theorem gvG_new {l : List Evt} {e : Evt} (h : Val l) (ha : Acc (buildS l) e) (obj : Idn) : gvG (l ++ [e]) obj (evId e) = fun _ => 0 := by
 unfold gvG
 have : ∀ m : List Evt, (∀ g ∈ m, gvF g obj (evId e) = false) → m.foldl (fun a g => if gvF g obj (evId e) = true then withV a g.rep g.seq else a) (fun _ => 0 : Vc) = fun _ => 0 := fun m hm => by
  induction m with
  | nil => rfl
  | cons g m ih =>
    rw [List.foldl_cons, if_neg (by rw [hm g List.mem_cons_self]; simp)]
    exact ih fun f hf => hm f (List.mem_cons_of_mem _ hf)
 exact this _ fun g hg => no_base h ha obj hg
theorem mem_vers {l : List Evt} (h : NodE l) (obj : Idn) : SortedV (versG l obj l) ∧ (versG l obj l).length ≤ l.length ∧ ∀ v, v ∈ versG l obj l ↔ ∃ e ∈ l, (wrB e = true ∧ evObj e = obj) ∧ v = verB l l e := ⟨(versG_sorted l.length l rfl h).1, (versG_sorted l.length l rfl h).2, fun v => versG_mem l.length l rfl⟩
theorem vers_same {l : List Evt} {e : Evt} (h : Val l) (ha : Acc (buildS l) e) {obj : Idn} (hx : ¬ (wrB e = true ∧ evObj e = obj)) : versG (l ++ [e]) obj (l ++ [e]) = versG l obj l := by
 obtain ⟨s1, _, m1⟩ := mem_vers h.nod obj
 obtain ⟨s2, _, m2⟩ := mem_vers (val_nod h ha) obj
 refine sortV_ext s2 s1 fun v => ?_
 have key : ∀ g ∈ l, wrB g = true ∧ evObj g = obj → verB (l ++ [e]) (l ++ [e]) g = verB l l g := fun g hg ⟨hw, ho⟩ => by
  rw [verB_old h hg hw, if_neg]
  unfold gvF
  rw [ho]
  simp only [Bool.and_eq_true, decide_eq_true_eq]
  exact fun q => hx ⟨q.1, q.2.1⟩
 rw [m1, m2]
 constructor
 · rintro ⟨g, hg, hc, rfl⟩
   rcases List.mem_append.1 hg with hg | hg
   · exact ⟨g, hg, hc, key g hg hc⟩
   · rw [List.mem_singleton] at hg; subst hg; exact absurd hc hx
 · rintro ⟨g, hg, hc, rfl⟩
   exact ⟨g, List.mem_append_left _ hg, hc, (key g hg hc).symm⟩
theorem bytesV_eq {l : List Evt} {e : Evt} (h : Val l) (ha : Acc (buildS l) e) (hw : wrB e = true) : bytesV (versG l (evObj e) l) e = stepW e (wasB l e) := by
 have hd : ∀ v ∈ versG l (evObj e) l, v.data.length ≤ 200 := fun v hv => by
  obtain ⟨g, hg, hc, rfl⟩ := ((mem_vers h.nod (evObj e)).2.2 v).1 hv
  exact (val_bytes h g hg hc.1).1
 have hk := of_decide_eq_true hw
 have hf := check_fits ha.ck hk hd
 have hwas : (dataV (versG l (evObj e) l) (baseI e).1 (baseI e).2).1 = wasB l e := by
  unfold baseI wasB
  cases hb : e.base.l with
  | nil => simp only; rw [dataV_0 ⟨rfl, rfl⟩]
  | cons b r =>
    simp only
    obtain ⟨v, hv, f, hf, hfw, _, rfl, rfl⟩ := acc_base h ha hw b (by rw [hb]; simp)
    obtain ⟨a, c, _, _, _, h3⟩ := h.mem hf
    have hbp := check_base h3.ck
    have hbp1 : 1 ≤ f.rep := hbp.1
    rw [dataV_s (fun q => by have := q.1; simp only at this; omega) hv]
    rfl
 have hwl : (dataV (versG l (evObj e) l) (baseI e).1 (baseI e).2).1.length ≤ 200 := dataV_len hd _ _
 unfold bytesV stepW
 rw [hwas] at hwl ⊢
 by_cases h5 : e.kind = 5
 · rw [if_pos h5, if_pos h5]
 rw [if_neg h5, if_neg h5]
 obtain ⟨o1, o2⟩ := hf.off h5
 by_cases h4 : e.kind = 4
 · rw [if_pos h4, if_pos h4]
   unfold cutW; rw [if_neg (by omega)]
 · rw [if_neg h4, if_neg h4]
   have hl := hf.len (by omega)
   unfold patchW; rw [if_neg (by unfold patchBad; omega)]
theorem vers_add {l : List Evt} {e : Evt} (h : Val l) (ha : Acc (buildS l) e) (hw : wrB e = true) : versG (l ++ [e]) (evObj e) (l ++ [e]) = addLV (versG l (evObj e) l) e.base.l (verS e.rep e.seq (bytesV (versG l (evObj e) l) e)) := by
 obtain ⟨s1, _, m1⟩ := mem_vers h.nod (evObj e)
 obtain ⟨s2, _, m2⟩ := mem_vers (val_nod h ha) (evObj e)
 have hnew : findV (versG l (evObj e) l) e.rep e.seq = none := findV_none.2 fun v hv ⟨h1, h2⟩ => by
  obtain ⟨g, hg, _, rfl⟩ := (m1 v).1 hv
  exact acc_new h ha g hg (Prod.ext h1 h2)
 have hE : verB (l ++ [e]) (l ++ [e]) e = verS e.rep e.seq (bytesV (versG l (evObj e) l) e) := by
  unfold verB verS
  rw [bytes_new h ha hw, gvG_new h ha, bytesV_eq h ha hw]
 refine sortV_ext s2 (addL_sorted s1 hnew) fun v => ?_
 rw [m2, mem_addL, ← hE]
 have key : ∀ g ∈ l, wrB g = true ∧ evObj g = evObj e → verB (l ++ [e]) (l ++ [e]) g = markB e.base.l e.rep e.seq (verB l l g) := fun g hg ⟨hgw, ho⟩ => by
  rw [verB_old h hg hgw]
  unfold markB
  have : gvF e (evObj g) (evId g) = decide (((verB l l g).rep, (verB l l g).seq) ∈ e.base.l) := by
   unfold gvF
   rw [hw, ho]
   simp; rfl
  rw [this]
  by_cases hin : ((verB l l g).rep, (verB l l g).seq) ∈ e.base.l
  · rw [if_pos (decide_eq_true hin), if_pos hin]
  · rw [if_neg (by simpa using hin), if_neg hin]
 constructor
 · rintro ⟨g, hg, hc, rfl⟩
   rcases List.mem_append.1 hg with hg | hg
   · exact .inr ⟨verB l l g, (m1 _).2 ⟨g, hg, hc, rfl⟩, key g hg hc⟩
   · rw [List.mem_singleton] at hg; subst hg; exact .inl rfl
 · rintro (rfl | ⟨y, hy, rfl⟩)
   · exact ⟨e, by simp, ⟨hw, rfl⟩, rfl⟩
   · obtain ⟨g, hg, hc, rfl⟩ := (m1 y).1 hy
     exact ⟨g, List.mem_append_left _ hg, hc, (key g hg hc).symm⟩
theorem stepO_vers (e f : Evt) (o : Obj) (v : List Ver) : stepO e { o with vers := v } f = { stepO e o f with vers := v } := by
 unfold stepO
 by_cases h1 : evObj f = evId e
 · rw [if_pos h1, if_pos h1]
   by_cases h7 : f.kind = 7
   · rw [if_pos h7, if_pos h7]
     by_cases hl : idLt o.last.1 o.last.2 f.rep f.seq = true
     · rw [if_pos hl, if_pos hl]
     · rw [if_neg hl, if_neg hl]
   · rw [if_neg h7, if_neg h7]
     by_cases h6 : f.kind = 6
     · rw [if_pos h6, if_pos h6]
     · rw [if_neg h6, if_neg h6]
 · rw [if_neg h1, if_neg h1]
theorem objB_re (l L : List Evt) (e : Evt) : ∀ m : List Evt, objB L m e = { objB l m e with vers := versG L (evId e) L } :=
 snocR rfl fun m f ih => by
  rw [objB_snoc, objB_snoc, ih, stepO_vers]
theorem objB_old (l : List Evt) (e f : Evt) : objB (l ++ [e]) (l ++ [e]) f = { stepO f (objB l l f) e with vers := versG (l ++ [e]) (evId f) (l ++ [e]) } := by
 rw [objB_re l, objB_snoc]
theorem stepO_keep (e f : Evt) (o : Obj) : (stepO e o f).id = o.id ∧ (stepO e o f).dir = o.dir ∧ (stepO e o f).vers = o.vers := by
 unfold stepO
 split
 · split
   · split <;> exact ⟨rfl, rfl, rfl⟩
   · split <;> exact ⟨rfl, rfl, rfl⟩
 · exact ⟨rfl, rfl, rfl⟩
theorem objB_new {l : List Evt} {e : Evt} (h : Val l) (ha : Acc (buildS l) e) : objB (l ++ [e]) (l ++ [e]) e = newO e := by
 have hv : versG (l ++ [e]) (evId e) (l ++ [e]) = [] := by
  refine List.eq_nil_iff_forall_not_mem.2 fun v hv => ?_
  obtain ⟨g, hg, hc, _⟩ := ((mem_vers (val_nod h ha) (evId e)).2.2 v).1 hv
  exact no_obj h ha hg hc.2
 unfold objB newO
 rw [hv]
 have : ∀ (m : List Evt) (o : Obj), (∀ g ∈ m, evObj g ≠ evId e) → m.foldl (stepO e) o = o := fun m => by
  induction m with
  | nil => intro o _; rfl
  | cons g m ih =>
    intro o hm
    rw [List.foldl_cons, show stepO e o g = o from if_neg (hm g List.mem_cons_self)]
    exact ih o fun f hf => hm f (List.mem_cons_of_mem _ hf)
 exact this _ _ fun g hg => no_obj h ha hg
def GO (e : Evt) (x : Obj) : Obj :=
 if e.kind = 7 then moveO e x
 else if e.kind = 6 then { x with seen := vJoin x.seen (withV e.dep e.rep e.seq) }
 else { x with vers := addLV x.vers e.base.l (verS e.rep e.seq (bytesV x.vers e)) }
theorem moveO_id (e : Evt) (x : Obj) : (moveO e x).id = x.id := by unfold moveO; split <;> rfl
theorem GO_id (e : Evt) (x : Obj) : (GO e x).id = x.id := by
 unfold GO
 split
 · exact moveO_id e x
 · split <;> rfl
theorem set_objs {l : List Obj} (hs : SortO l) {i : Idn} {o : Obj} (h : objAt l i = some o) (g : Obj → Obj) : l.set (posO l i) (g o) = l.map fun x => if x.id = i then g x else x := by
 obtain ⟨h1, h2⟩ := objAt_some h
 apply List.ext_getElem?
 intro j
 rw [List.getElem?_map]
 by_cases hj : posO l i = j
 · subst hj
   rw [List.getElem?_set_self (List.getElem?_eq_some_iff.1 h1).1, h1]
   simp only [Option.map_some]
   rw [if_pos h2]
 · rw [List.getElem?_set_ne hj]
   cases hy : l[j]? with
   | none => rfl
   | some y =>
     simp only [Option.map_some]
     rw [if_neg]
     intro q
     rcases Nat.lt_or_gt_of_ne hj with k | k
     · have := sortO_get hs h1 hy k; rw [h2, q] at this; exact ilt_irr this
     · have := sortO_get hs hy h1 k; rw [h2, q] at this; exact ilt_irr this
theorem do_objs {s : St} (hs : SortO s.objs) {e : Evt} (hk : e.kind = 3 ∨ e.kind = 4 ∨ e.kind = 5 ∨ e.kind = 6 ∨ e.kind = 7) {o : Obj} (h : objAt s.objs (evObj e) = some o) : (doS s e).objs = s.objs.map fun x => if x.id = evObj e then GO e x else x := by
 unfold doS
 rw [if_neg (by omega), if_neg (by omega), if_neg (by omega), h, ← set_objs hs h (GO e)]
 simp only
 unfold GO
 by_cases h7 : e.kind = 7
 · rw [if_pos h7, if_pos h7]; rfl
 rw [if_neg h7, if_neg h7]
 by_cases h6 : e.kind = 6
 · rw [if_pos h6, if_pos h6]; rfl
 · rw [if_neg h6, if_neg h6]; rfl
theorem sortO_map {l : List Obj} (hs : SortO l) {g : Obj → Obj} (hg : ∀ x, (g x).id = x.id) : SortO (l.map g) := by
 rw [sortO_pw] at *
 rw [List.pairwise_map]
 exact hs.imp fun {a b} h => by rw [hg, hg]; exact h
theorem rep_ne {l : List Evt} (h : Val l) {f : Evt} (hf : f ∈ l) : evId f ≠ (0, 0) := fun q => by
 obtain ⟨a, b, _, _, _, h3⟩ := h.mem hf
 have h1 : 1 ≤ f.rep := (check_base h3.ck).1
 have h2 : f.rep = 0 := congrArg Prod.fst q
 omega
theorem objB_eq {l : List Evt} {e : Evt} (h : Val l) (ha : Acc (buildS l) e) {f : Evt} (hf : f ∈ l) :
 objB (l ++ [e]) (l ++ [e]) f = if (e.kind = 3 ∨ e.kind = 4 ∨ e.kind = 5 ∨ e.kind = 6 ∨ e.kind = 7) ∧ evId f = evObj e then GO e (objB l l f) else objB l l f := by
 rw [objB_old]
 have hov := objB_vers l f l
 by_cases hk : e.kind = 3 ∨ e.kind = 4 ∨ e.kind = 5 ∨ e.kind = 6 ∨ e.kind = 7
 rotate_left
 · rw [if_neg fun q => hk q.1]
   have hw : wrB e = false := decide_eq_false (by omega)
   rw [vers_same h ha (fun q => by rw [hw] at q; simp at q), ← hov]
   have h0 := check_obj0 ha.ck hk
   have : stepO f (objB l l f) e = objB l l f := if_neg (by rw [h0]; exact fun q => rep_ne h hf q.symm)
   rw [this]
 by_cases hi : evId f = evObj e
 rotate_left
 · rw [if_neg fun q => hi q.2, vers_same h ha (fun q => hi q.2.symm), ← hov]
   have : stepO f (objB l l f) e = objB l l f := if_neg fun q => hi q.symm
   rw [this]
 rw [if_pos ⟨hk, hi⟩]
 unfold stepO GO
 rw [if_pos hi.symm]
 by_cases h7 : e.kind = 7
 · have hw : wrB e = false := decide_eq_false (by omega)
   rw [if_pos h7, if_pos h7, vers_same h ha (fun q => by rw [hw] at q; simp at q), ← hov]
   unfold moveO
   split <;> rfl
 rw [if_neg h7, if_neg h7]
 by_cases h6 : e.kind = 6
 · have hw : wrB e = false := decide_eq_false (by omega)
   rw [if_pos h6, if_pos h6, vers_same h ha (fun q => by rw [hw] at q; simp at q), ← hov]
 · rw [if_neg h6, if_neg h6]
   have hw : wrB e = true := decide_eq_true (by omega)
   rw [hi, vers_add h ha hw, hov, hi]
theorem objs_snoc {l : List Evt} {e : Evt} (h : Val l) (ha : Acc (buildS l) e) : (buildS (l ++ [e])).objs = (applyS (buildS l) e).objs := by
 obtain ⟨s1, _, m1⟩ := mem_objs h.nod
 obtain ⟨s2, _, m2⟩ := mem_objs (val_nod h ha)
 have hkn : (knowS (buildS l) e).objs = (buildS l).objs := rfl
 by_cases hk : e.kind = 3 ∨ e.kind = 4 ∨ e.kind = 5 ∨ e.kind = 6 ∨ e.kind = 7
 · obtain ⟨f0, hf0, _, _, ho, _⟩ := acc_obj h ha hk
   have hd := do_objs (s := knowS (buildS l) e) s1 hk ho
   unfold applyS
   rw [hd]
   refine sortO_ext s2 (sortO_map s1 fun x => by split; exact GO_id e x; rfl) fun x => ?_
   rw [m2, List.mem_map]
   have key : ∀ f ∈ l, objB (l ++ [e]) (l ++ [e]) f = if (objB l l f).id = evObj e then GO e (objB l l f) else objB l l f := fun f hf => by
    rw [objB_eq h ha hf, objB_id]
    by_cases hi : evId f = evObj e
    · rw [if_pos ⟨hk, hi⟩, if_pos hi]
    · rw [if_neg fun q => hi q.2, if_neg hi]
   constructor
   · rintro ⟨f, hf, hc, rfl⟩
     rcases List.mem_append.1 hf with hf | hf
     · exact ⟨objB l l f, (m1 _).2 ⟨f, hf, hc, rfl⟩, (key f hf).symm⟩
     · rw [List.mem_singleton] at hf; subst hf; omega
   · rintro ⟨y, hy, rfl⟩
     obtain ⟨f, hf, hc, rfl⟩ := (m1 y).1 hy
     exact ⟨f, List.mem_append_left _ hf, hc, (key f hf).symm⟩
 have key : ∀ f ∈ l, objB (l ++ [e]) (l ++ [e]) f = objB l l f := fun f hf => by
  rw [objB_eq h ha hf, if_neg fun q => hk q.1]
 have hb := check_base ha.ck
 obtain ⟨_, _, _, _, _, b6, b7⟩ := hb
 by_cases h12 : e.kind = 1 ∨ e.kind = 2
 · have hd : (applyS (buildS l) e).objs = insO (buildS l).objs (newO e) := by
    unfold applyS doS
    rw [if_neg (by omega), if_neg (by omega), if_pos h12]; rfl
   rw [hd]
   have hne : ∀ x ∈ (buildS l).objs, x.id ≠ (newO e).id := fun x hx q => by
    obtain ⟨f, hf, hc, rfl⟩ := (m1 x).1 hx
    rw [objB_id] at q
    exact acc_new h ha f hf q
   refine sortO_ext s2 (sortO_ins s1 hne) fun x => ?_
   rw [m2, mem_insO]
   constructor
   · rintro ⟨f, hf, hc, rfl⟩
     rcases List.mem_append.1 hf with hf | hf
     · exact .inr ((m1 _).2 ⟨f, hf, hc, key f hf⟩)
     · rw [List.mem_singleton] at hf; subst hf; exact .inl (objB_new h ha)
   · rintro (rfl | hx)
     · exact ⟨e, by simp, h12, (objB_new h ha).symm⟩
     · obtain ⟨f, hf, hc, rfl⟩ := (m1 x).1 hx
       exact ⟨f, List.mem_append_left _ hf, hc, (key f hf).symm⟩
 · have hd : (applyS (buildS l) e).objs = (buildS l).objs := by
    unfold applyS doS
    by_cases h8 : e.kind = 8
    · rw [if_pos h8]; rfl
    · rw [if_neg h8, if_pos (by omega)]; rfl
   rw [hd]
   refine sortO_ext s2 s1 fun x => ?_
   rw [m2, m1]
   constructor
   · rintro ⟨f, hf, hc, rfl⟩
     rcases List.mem_append.1 hf with hf | hf
     · exact ⟨f, hf, hc, key f hf⟩
     · rw [List.mem_singleton] at hf; subst hf; exact absurd hc h12
   · rintro ⟨f, hf, hc, rfl⟩
     exact ⟨f, List.mem_append_left _ hf, hc, (key f hf).symm⟩
end Go.Proofs.Ythmjebkldgdeiaa.Fw
namespace Go.Proofs.Ythmjebkldgdeiaa.Fw
open Go.RowKit Go.Proofs
theorem St.eq {a b : St} (h1 : a.known = b.known) (h2 : a.objs = b.objs) (h3 : a.ents = b.ents) (h4 : a.wards = b.wards) (h5 : a.ret = b.ret) : a = b := by
 cases a; cases b; simp only at h1 h2 h3 h4 h5; subst h1 h2 h3 h4 h5; rfl
theorem bld_w (l l' : List Evt) : ∀ m : List Evt, (bldP l m).1.wards = (bldP l' m).1.wards ∧ (bldP l m).1.ret = (bldP l' m).1.ret ∧ (bldP l m).2 = (bldP l' m).2 :=
 snocR ⟨rfl, rfl, rfl⟩ fun m e ⟨h1, h2, h3⟩ => by
  rw [bldP_snoc, bldP_snoc]
  unfold bStep
  by_cases k12 : e.kind = 1 ∨ e.kind = 2
  · rw [if_pos k12, if_pos k12]; exact ⟨h1, h2, h3⟩
  rw [if_neg k12, if_neg k12]
  by_cases k8 : e.kind = 8
  · rw [if_pos k8, if_pos k8, h3]
    split
    · exact ⟨by simp only [seatS, h1], h2, by simp only [h3]⟩
    · exact ⟨h1, h2, h3⟩
  rw [if_neg k8, if_neg k8]
  by_cases k9 : e.kind = 9
  · rw [if_pos k9, if_pos k9]; exact ⟨h1, by simp only [retS, h2], h3⟩
  rw [if_neg k9, if_neg k9]; exact ⟨h1, h2, h3⟩
theorem with_mono {a b : Vc} {r : Int} {q : Nat} {i : Nat} (h : ∀ i, a i ≤ b i) : withV a r q i ≤ withV b r q i := by
 by_cases hr : 1 ≤ r ∧ r ≤ 8
 · rw [withV_at hr, withV_at hr]; have := h i; split <;> omega
 · unfold withV; rw [if_neg hr, if_neg hr]; exact h i
theorem latest_le (L : List Evt) : ∀ (m : List Evt) (i : Nat), (bldP L m).2 i ≤ knownG m i :=
 snocR (fun i => Nat.le_refl _) fun m e ih i => by
  rw [bldP_snoc, knownG_snoc]
  unfold bStep
  split
  · exact Nat.le_trans (ih i) (with_le i)
  · split
    · split
      · exact with_mono ih
      · exact Nat.le_trans (ih i) (with_le i)
    · split <;> exact Nat.le_trans (ih i) (with_le i)
theorem do_known (s : St) (e : Evt) : (doS s e).known = s.known := by
 unfold doS
 split
 · rfl
 · split
   · rfl
   · split
     · rfl
     · split
       · rfl
       · split
         · rfl
         · split <;> rfl
theorem build_snoc {l : List Evt} {e : Evt} (h : Val l) (ha : Acc (buildS l) e) : buildS (l ++ [e]) = applyS (buildS l) e := by
 obtain ⟨n1, n2, n3⟩ := acc_next ha
 obtain ⟨_, _, _, _, _, b6, b7⟩ := check_base ha.ck
 rw [bld_known] at n3
 have hb : buildS (l ++ [e]) = (bStep (l ++ [e]) (bldP (l ++ [e]) l) e).1 := by
  show (bldP (l ++ [e]) (l ++ [e])).1 = _
  rw [bldP_snoc]
 obtain ⟨w1, w2, w3⟩ := bld_w (l ++ [e]) l l
 have hen := ents_snoc h ha
 rw [← bld_entsS (l ++ [e]), ← bld_entsS l] at hen
 refine St.eq ?_ (objs_snoc h ha) ?_ ?_ ?_
 · rw [bld_known, knownG_snoc]
   unfold applyS; rw [do_known]
   show _ = withV (buildS l).known e.rep e.seq
   rw [bld_known]
 · rw [hen]
   unfold applyS doS
   by_cases h8 : e.kind = 8
   · rw [if_pos h8, if_neg (by omega), if_neg (by omega), if_neg (by omega)]; rfl
   rw [if_neg h8]
   by_cases h9 : e.kind = 9
   · rw [if_pos h9, if_neg (by omega), if_neg (by omega), if_neg (by omega)]; rfl
   rw [if_neg h9]
   by_cases h12 : e.kind = 1 ∨ e.kind = 2
   · rw [if_pos h12, if_pos h12]; rfl
   rw [if_neg h12, if_neg h12]
   obtain ⟨f0, hf0, _, _, ho, _⟩ := acc_obj h ha (by omega)
   rw [show objAt (knowS (buildS l) e).objs (evObj e) = some (objB l l f0) from ho]
   simp only
   by_cases h7 : e.kind = 7
   · rw [if_pos h7, if_pos h7]; rfl
   rw [if_neg h7, if_neg h7]
   by_cases h6 : e.kind = 6
   · rw [if_pos h6, if_pos h6]; rfl
   · rw [if_neg h6, if_neg h6]; rfl
 · rw [hb]
   unfold applyS doS bStep
   by_cases h8 : e.kind = 8
   · have hlt : getV (bldP (l ++ [e]) l).2 e.rep < e.seq := by
      unfold getV; rw [if_pos ⟨n1, n2⟩, w3]
      have := latest_le l l (e.rep - 1).toNat
      omega
     rw [if_pos h8, if_neg (by omega), if_pos h8, if_pos hlt]
     simp only [seatS, w1]; rfl
   rw [if_neg h8, if_neg h8]
   by_cases h9 : e.kind = 9
   · rw [if_pos h9, if_neg (by omega), if_pos h9]
     simp only [retS, w1]; rfl
   rw [if_neg h9, if_neg h9]
   by_cases h12 : e.kind = 1 ∨ e.kind = 2
   · rw [if_pos h12, if_pos h12]; simp only [w1]; rfl
   rw [if_neg h12, if_neg h12]
   obtain ⟨f0, hf0, _, _, ho, _⟩ := acc_obj h ha (by omega)
   rw [show objAt (knowS (buildS l) e).objs (evObj e) = some (objB l l f0) from ho]
   simp only
   rw [w1]
   split
   · rfl
   · split <;> rfl
 · rw [hb]
   unfold applyS doS bStep
   by_cases h8 : e.kind = 8
   · rw [if_pos h8, if_neg (by omega), if_pos h8]
     split
     · simp only [seatS, w2]; rfl
     · simp only [seatS, w2]; rfl
   rw [if_neg h8, if_neg h8]
   by_cases h9 : e.kind = 9
   · rw [if_pos h9, if_neg (by omega), if_pos h9]
     simp only [retS, w2]; rfl
   rw [if_neg h9, if_neg h9]
   by_cases h12 : e.kind = 1 ∨ e.kind = 2
   · rw [if_pos h12, if_pos h12]; simp only [w2]; rfl
   rw [if_neg h12, if_neg h12]
   obtain ⟨f0, hf0, _, _, ho, _⟩ := acc_obj h ha (by omega)
   rw [show objAt (knowS (buildS l) e).objs (evObj e) = some (objB l l f0) from ho]
   simp only
   rw [w2]
   split
   · rfl
   · split <;> rfl
theorem val_in {l : List Evt} (h : Val l) (hn : l.length ≤ 400) : StIn (buildS l) := by
 obtain ⟨s1, l1, m1⟩ := mem_objs h.nod
 have hv : ∀ o ∈ (buildS l).objs, ∃ f ∈ l, o.vers = versG l (evId f) l := fun o ho => by
  obtain ⟨f, hf, _, rfl⟩ := (m1 o).1 ho
  exact ⟨f, hf, objB_vers l f l⟩
 have hs := (mem_entsG (l := l) l h.nod).1
 refine ⟨⟨⟨by omega, fun o ho => ?_, ?_⟩, s1, ?_⟩, fun o ho => ?_, fun o ho v hq => ?_, fun o ho v hq => ?_⟩
 · obtain ⟨f, hf, e⟩ := hv o ho
   rw [e]; have := (mem_vers h.nod (evId f)).2.1; omega
 · rw [bld_entsS]; have := entsG_len l l.length l rfl; omega
 · rw [bld_entsS]; exact hs
 · obtain ⟨f, hf, e⟩ := hv o ho
   rw [e]; exact (mem_vers h.nod (evId f)).1
 · obtain ⟨f, hf, e⟩ := hv o ho
   rw [e] at hq
   obtain ⟨g, hg, hc, rfl⟩ := ((mem_vers h.nod (evId f)).2.2 v).1 hq
   exact (val_bytes h g hg hc.1).1
 · obtain ⟨f, hf, e⟩ := hv o ho
   rw [e] at hq
   obtain ⟨g, hg, hc, rfl⟩ := ((mem_vers h.nod (evId f)).2.2 v).1 hq
   rw [bld_known]
   exact h.has.2 ⟨g, hg, rfl⟩
theorem val_rep {l : List Evt} (h : Val l) : ∀ e ∈ l, 1 ≤ e.rep ∧ e.rep ≤ 8 := fun e he => by
 obtain ⟨a, c, _, _, hv, h3⟩ := h.mem he
 exact ⟨(check_base h3.ck).1, (check_base h3.ck).2.1⟩
open Classical in
noncomputable def takS (out : List Evt) (e : Evt) : List Evt := if whyS (buildS out) e = 0 then out ++ [e] else out
noncomputable def takeL (l : List Evt) : List Evt := l.foldl takS []
theorem takeL_snoc (l : List Evt) (e : Evt) : takeL (l ++ [e]) = takS (takeL l) e := by simp [takeL]
theorem takeL_ok : ∀ l : List Evt, (∀ e ∈ l, ev e) → Val (takeL l) ∧ (takeL l).length ≤ l.length ∧ ∀ e ∈ takeL l, e ∈ l :=
 snocR (fun _ => ⟨Val.nil, Nat.le_refl _, fun e he => by cases he⟩) fun l e ih hl => by
  obtain ⟨h1, h2, h3⟩ := ih fun f hf => hl f (List.mem_append_left _ hf)
  rw [takeL_snoc]
  unfold takS
  split
  · rename_i hw
    refine ⟨Val.snoc h1 (hl e (by simp)) hw, by simp only [List.length_append, List.length_singleton]; omega, fun f hf => ?_⟩
    rcases List.mem_append.1 hf with hf | hf
    · exact List.mem_append_left _ (h3 f hf)
    · exact List.mem_append_right _ hf
  · exact ⟨h1, by simp only [List.length_append, List.length_singleton]; omega, fun f hf => List.mem_append_left _ (h3 f hf)⟩
theorem fits_ent (x : Ent) : fits [K1.int .i64, K1.int .u32, K1.int .i64, K1.int .u32, .str, K1.int .i64, K1.int .u32, .int .u32, .int .u32, .int .u32, .int .u32, .int .u32, .int .u32, .int .u32, .int .u32] (entE x) = True := eq_true rfl
theorem peq_refl (c : List PV) : peq c c = true := by simp [peq]
def stSameEn (f g : Bool) (l m : List Ent) (k : Nat) : FS := mk [(5, .pv (.i .i64 k)), (0, .pv (.sl f 15 (l.map entE))), (1, .pv (.sl g 15 (m.map entE)))] []
theorem okSameEn {x y : SV} {f g : Bool} {l m : List Ent} {h d} (hx : lents h [x, y] = [.pv (.sl f 15 (l.map entE)), .pv (.sl g 15 (m.map entE))]) (hl : lendable [x, y] = true) (he : l = m) (hn : l.length ≤ 1000) :
 FunOk Try.prog 37 [x, y] h d (.pv (.b true)) [] := by
 refine fun_scalar mixed fn37 (by simp) hl rfl fun F => ?_
 subst he
 rw [hx]
 simp (disch := omega) only [ir37, List.length_map, go_sem]
 refine loop_ok mixed (stSameEn f g l l) (fun k => k ≤ l.length) (fun k => l.length - k) 0 (by simp) (weak_mk ?_ ?_) fun k hk => ?_
 · simp (disch := omega) only [go_sem]
 · simp (disch := omega) only [go_sem]
 by_cases hlt : k < l.length
 · have h2 : (l.map entE)[k]? = some (entE l[k]) := by simp [hlt]
   generalize l[k] = v at *
   have hp := peq_refl (entE v)
   have hf := fits_ent v
   simp (disch := omega) only [stSameEn, List.length_map, h2, ld_ent, hp, hf, go_sem]
   refine loop_next (k + 1) _ _ rfl (by omega) (by omega) ?_ ?_
   · simp (disch := omega) only [go_sem]
   · simp (disch := omega) only [go_sem]
 · simp (disch := omega) only [stSameEn, List.length_map, go_sem]
theorem fitsV8 (v : Vc) : fits [K1.int .u32, .int .u32, .int .u32, .int .u32, .int .u32, .int .u32, .int .u32, .int .u32] (vE v) = True := eq_true rfl
theorem fitsI8 (v : Nat → Int) : fits [K1.int .i64, .int .i64, .int .i64, .int .i64, .int .i64, .int .i64, .int .i64, .int .i64] (iE v) = True := eq_true rfl
theorem fitsW8 (v : Nat → Bool) : fits [K1.bool, .bool, .bool, .bool, .bool, .bool, .bool, .bool] (wE v) = True := eq_true rfl
theorem fitsId1 (i : Idn) : fits [K1.int .i64, .int .u32] [.i .i64 i.1, .i .u32 i.2] = True := eq_true rfl
def stSm12 (s : St) (k : Nat) : FS := mk [(5, .pv (.i .i64 k)), (2, .p 2 0), (3, .p 3 0)] [(2, some (.var (.agg (segS s)))), (3, some (.var (.agg (segS s))))]
set_option maxHeartbeats 2000000 in
theorem okSame12 {s : St} (hs : Fine s) {h d} : FunOk Try.prog 18 [.agg (segS s), .agg (segS s)] h d (.pv (.b true)) [] := by
 refine fun_pure mixed fn18 (by simp) rfl rfl fun F => ?_
 have p1 := peq_refl (vE s.known)
 have p2 := peq_refl (iE s.wards)
 have p3 := peq_refl (wE s.ret)
 have f1 := fitsV8 s.known
 have f2 := fitsI8 s.wards
 have f3 := fitsW8 s.ret
 simp (disch := omega) only [ir18, segS, segX, p1, p2, p3, f1, f2, f3, go_sem]
 refine call_with (okSameEn (l := s.ents) rfl rfl rfl (Nat.le_trans hs.en (by omega))) ?_
 simp (disch := omega) only [List.length_map, go_sem]
 refine loop_ok mixed (stSm12 s) (fun k => k ≤ s.objs.length) (fun k => s.objs.length - k) 0 (by simp) (weak_mk ?_ ?_) fun k hk => ?_
 · simp (disch := omega) only [go_sem]
 · simp (disch := omega) only [segS, segX, go_sem]
 by_cases hlt : k < s.objs.length
 · have h2 : (s.objs.map objE)[k]? = some (objE s.objs[k]) := by simp [hlt]
   have hvk := hs.ov _ (List.getElem_mem hlt)
   have hon := hs.on
   generalize s.objs[k] = o at *
   have hol := objE_len o
   have q1 := peq_refl [.i .i64 o.id.1, .i .u32 o.id.2]
   have q2 := peq_refl [.i .i64 o.last.1, .i .u32 o.last.2]
   have q3 := peq_refl (vE o.seen)
   have q4 := fitsV8 o.seen
   simp (disch := omega) only [stSm12, segS, segX, List.length_map, go_sem]
   refine anyP_now ?_
   simp (disch := omega) only [h2, List.length_map, ld_obj, hol, ld_objId, ld_objDir, ld_objLast, ld_objName, ld_objSeen, ld_objVers, fitsId1, q1, q2, q3, q4, go_sem]
   refine call_with (okSame (l := o.vers) (m := o.vers) rfl rfl rfl (by omega)) ?_
   simp (disch := omega) only [go_sem]
   refine loop_next (k + 1) _ _ rfl (by omega) (by omega) ?_ ?_
   · simp (disch := omega) only [go_sem]
   · simp (disch := omega) only [segS, segX, go_sem]
 · obtain rfl : k = s.objs.length := by omega
   simp (disch := omega) only [stSm12, segS, segX, List.length_map, go_sem]
structure EvIn (e : Evt) : Prop where
 ev : ev e
 dep : ∀ i, i < 8 → e.dep i < 4294967296
def FitE (e : Evt) : Prop := e.name.length ≤ 30 ∧ e.data.length ≤ 250 ∧ e.gone.l.length ≤ 10 ∧ e.base.l.length ≤ 10
theorem tops_seg (s : St) : tops (segS s) = [] := by simp [segS, segX, tops, tn]
abbrev shEvt : Sh := .st [shId, .arr 8 (.int .u32), .int .i64, shId, shId, .str, .sl shId, .sl shId, .int .i64, .str, .int .i64]
theorem GC_evt {cs : List PV} (h : GC shEvt cs) : ∃ e : Evt, cs = evE e ∧ (∀ i, i < 8 → e.dep i < 4294967296) ∧ e.gone.ok ∧ e.base.ok ∧ e.name.length ≤ maxLen ∧ e.data.length ≤ maxLen := by
 simp only [GC] at h
 simp only [GCL] at h
 obtain ⟨c0, r0, rfl, g0, c1, r1, rfl, g1, c2, r2, rfl, ⟨n2, rfl, w2⟩, c3, r3, rfl, g3, c4, r4, rfl, g4, c5, r5, rfl, ⟨s5, rfl, w5⟩, c6, r6, rfl, g6, c7, r7, rfl, g7, c8, r8, rfl, ⟨n8, rfl, w8⟩, c9, r9, rfl, ⟨s9, rfl, w9⟩, c10, r10, rfl, ⟨n10, rfl, w10⟩, rfl⟩ := h
 obtain ⟨b0, rfl, hb0⟩ := GC_id (by simp only [GC]; exact g0)
 obtain ⟨a, rfl, ha⟩ := GC_vE (by simp only [GC]; exact g1)
 obtain ⟨b3, rfl, hb3⟩ := GC_id (by simp only [GC]; exact g3)
 obtain ⟨b4, rfl, hb4⟩ := GC_id (by simp only [GC]; exact g4)
 obtain ⟨e6, rfl, l6, g6⟩ := GC_sl (s := shId) (by simp only [GC]; exact g6)
 obtain ⟨e7, rfl, l7, g7⟩ := GC_sl (s := shId) (by simp only [GC]; exact g7)
 obtain ⟨m6, rfl, _⟩ := els_of (f := idE) GC_id g6
 obtain ⟨m7, rfl, _⟩ := els_of (f := idE) GC_id g7
 exact ⟨⟨b0.1, b0.2, a, n2, b3.1, b3.2, b4.1, b4.2, s5, ⟨false, 2, m6⟩, ⟨false, 2, m7⟩, n8, s9, n10⟩, by simp [evE, idE, SlI.pv]; rfl, ha, .inr rfl, .inr rfl, w5, w9⟩
theorem GC_evtC {cs : List PV} (h : GC shEvt cs) : ∃ e : Evt, cs = evE e ∧ (∀ i, i < 8 → e.dep i < 4294967296) ∧ e.gone = ⟨false, 2, e.gone.l⟩ ∧ e.base = ⟨false, 2, e.base.l⟩ := by
 simp only [GC] at h
 simp only [GCL] at h
 obtain ⟨c0, r0, rfl, g0, c1, r1, rfl, g1, c2, r2, rfl, ⟨n2, rfl, w2⟩, c3, r3, rfl, g3, c4, r4, rfl, g4, c5, r5, rfl, ⟨s5, rfl, w5⟩, c6, r6, rfl, g6, c7, r7, rfl, g7, c8, r8, rfl, ⟨n8, rfl, w8⟩, c9, r9, rfl, ⟨s9, rfl, w9⟩, c10, r10, rfl, ⟨n10, rfl, w10⟩, rfl⟩ := h
 obtain ⟨b0, rfl, hb0⟩ := GC_id (by simp only [GC]; exact g0)
 obtain ⟨a, rfl, ha⟩ := GC_vE (by simp only [GC]; exact g1)
 obtain ⟨b3, rfl, hb3⟩ := GC_id (by simp only [GC]; exact g3)
 obtain ⟨b4, rfl, hb4⟩ := GC_id (by simp only [GC]; exact g4)
 obtain ⟨e6, rfl, l6, g6⟩ := GC_sl (s := shId) (by simp only [GC]; exact g6)
 obtain ⟨e7, rfl, l7, g7⟩ := GC_sl (s := shId) (by simp only [GC]; exact g7)
 obtain ⟨m6, rfl, _⟩ := els_of (f := idE) GC_id g6
 obtain ⟨m7, rfl, _⟩ := els_of (f := idE) GC_id g7
 exact ⟨⟨b0.1, b0.2, a, n2, b3.1, b3.2, b4.1, b4.2, s5, ⟨false, 2, m6⟩, ⟨false, 2, m7⟩, n8, s9, n10⟩, by simp [evE, idE, SlI.pv]; rfl, ha, rfl, rfl⟩
structure EvRaw (e : Evt) : Prop where
 dep : ∀ i, i < 8 → e.dep i < 4294967296
 gone : e.gone.ok
 base : e.base.ok
theorem raw_in {e : Evt} (h : EvRaw e) (k : FitE e) : EvIn e := by
 obtain ⟨k1, k2, k3, k4⟩ := k
 exact ⟨⟨h.gone, h.base, by omega, by omega, by omega⟩, h.dep⟩
theorem GC_evR {cs : List PV} (h : GC shEvt cs) : ∃ e : Evt, cs = evE e ∧ EvRaw e := by
 obtain ⟨e, h1, h2, h3, h4, _, _⟩ := GC_evt h
 exact ⟨e, h1, ⟨h2, h3, h4⟩⟩
theorem GC_evs {cs : List PV} (h : GC (.sl shEvt) cs) : ∃ l : List Evt, cs = [.sl false 21 (l.map evE)] ∧ ∀ e ∈ l, EvRaw e := by
 obtain ⟨es, rfl, _, g⟩ := GC_sl h
 obtain ⟨l, rfl, hl⟩ := els_of (f := evE) (p := EvRaw) GC_evR g
 exact ⟨l, rfl, hl⟩
structure GrewO (x y : Obj) : Prop where
 id : y.id = x.id
 dir : y.dir = x.dir
 seen : vLe x.seen y.seen
 len : x.vers.length ≤ y.vers.length
theorem GrewO.trans {x y z : Obj} (h : GrewO x y) (k : GrewO y z) : GrewO x z := ⟨k.id.trans h.id, k.dir.trans h.dir, fun i hi => Nat.le_trans (h.seen i hi) (k.seen i hi), Nat.le_trans h.len k.len⟩
theorem withV_com (v : Vc) (a b : Idn) : withV (withV v a.1 a.2) b.1 b.2 = withV (withV v b.1 b.2) a.1 a.2 := by
 rw [withV_eq, withV_eq, withV_eq, withV_eq, vJoin_assoc, vJoin_comm (oneT a), ← vJoin_assoc]
theorem fold_perm {α β : Type} {f : β → α → β} {l m : List α} (h : l.Perm m) (b : β) (hc : ∀ x ∈ l, ∀ y ∈ l, ∀ z, f (f z x) y = f (f z y) x) : l.foldl f b = m.foldl f b := h.foldl_eq' hc b
theorem known_perm {l m : List Evt} (h : l.Perm m) : knownG l = knownG m := fold_perm h _ fun x _ y _ z => withV_com z (evId x) (evId y)
theorem byG_perm {l m : List Evt} (h : l.Perm m) (obj id : Idn) : byG l obj id = byG m obj id := fold_perm h _ fun x _ y _ z => by
 by_cases h1 : goF x obj id = true <;> by_cases h2 : goF y obj id = true <;> simp only [h1, h2, if_true, if_false, Bool.false_eq_true]
 exact withV_com z (evId x) (evId y)
theorem gvG_perm {l m : List Evt} (h : l.Perm m) (obj id : Idn) : gvG l obj id = gvG m obj id := fold_perm h _ fun x _ y _ z => by
 by_cases h1 : gvF x obj id = true <;> by_cases h2 : gvF y obj id = true <;> simp only [h1, h2, if_true, if_false, Bool.false_eq_true]
 exact withV_com z (evId x) (evId y)
theorem nodE_eq {l : List Evt} (hn : NodE l) {e f : Evt} (he : e ∈ l) (hf : f ∈ l) (h : evId e = evId f) : e = f := by
 have h1 := findL_mem hn he
 have h2 := findL_mem hn hf
 rw [h] at h1; rw [h1] at h2; exact Option.some.inj h2
theorem nodE_nodup {l : List Evt} (hn : NodE l) : l.Nodup := by
 unfold NodE List.Nodup at *
 rw [List.pairwise_map] at hn
 exact hn.imp fun h q => h (by rw [q])
theorem find_perm {l m : List Evt} (hl : NodE l) (hm : NodE m) (h : l.Perm m) (i : Idn) : findL l i = findL m i := by
 cases h1 : findL l i with
 | some e =>
   have he := List.mem_of_find?_eq_some h1
   have hi : evId e = i := by simpa using List.find?_some h1
   rw [← hi, findL_mem hm (h.mem_iff.1 he)]
 | none =>
   cases h2 : findL m i with
   | none => rfl
   | some e =>
     have he := List.mem_of_find?_eq_some h2
     have hi : evId e = i := by simpa using List.find?_some h2
     rw [← hi, findL_mem hl (h.mem_iff.2 he)] at h1; cases h1
theorem bytes_perm {l m : List Evt} (hl : NodE l) (hm : NodE m) (h : l.Perm m) : ∀ (n : Nat) (i : Idn), bytesD l n i = bytesD m n i
 | 0, i => rfl
 | n + 1, i => by
   simp only [bytesD]
   rw [find_perm hl hm h i]
   cases findL m i with
   | none => rfl
   | some e =>
     simp only
     congr 1
     cases e.base.l with
     | nil => rfl
     | cons b t => exact bytes_perm hl hm h n b
theorem verB_perm {l m : List Evt} (hl : NodE l) (hm : NodE m) (h : l.Perm m) (e : Evt) : verB l l e = verB m m e := by
 unfold verB
 rw [bytes_perm hl hm h, gvG_perm h, h.length_eq]
theorem vers_perm {l m : List Evt} (hl : NodE l) (hm : NodE m) (h : l.Perm m) (obj : Idn) : versG l obj l = versG m obj m := by
 obtain ⟨s1, _, m1⟩ := mem_vers hl obj
 obtain ⟨s2, _, m2⟩ := mem_vers hm obj
 refine sortV_ext s1 s2 fun v => ?_
 rw [m1, m2]
 constructor
 · rintro ⟨g, hg, hc, rfl⟩; exact ⟨g, h.mem_iff.1 hg, hc, verB_perm hl hm h g⟩
 · rintro ⟨g, hg, hc, rfl⟩; exact ⟨g, h.mem_iff.2 hg, hc, (verB_perm hl hm h g).symm⟩
theorem ents_perm {l m : List Evt} (hl : NodE l) (hm : NodE m) (h : l.Perm m) : entsG l l = entsG m m := by
 obtain ⟨s1, m1⟩ := mem_entsG (l := l) l hl
 obtain ⟨s2, m2⟩ := mem_entsG (l := m) m hm
 have hB : ∀ e, entB l e = entB m e := fun e => by unfold entB; rw [byG_perm h]
 refine sortE_ext s1 s2 fun x => ?_
 rw [m1, m2]
 constructor
 · rintro ⟨g, hg, hc, rfl⟩; exact ⟨g, h.mem_iff.1 hg, hc, hB g⟩
 · rintro ⟨g, hg, hc, rfl⟩; exact ⟨g, h.mem_iff.2 hg, hc, (hB g).symm⟩
theorem step_comm (e : Evt) (o : Obj) (f g : Evt) (hne : evId f ≠ evId g) : stepO e (stepO e o f) g = stepO e (stepO e o g) f := by
 by_cases hf : evObj f = evId e
 rotate_left
 · have h1 : ∀ o, stepO e o f = o := fun o => if_neg hf
   rw [h1, h1]
 by_cases hg : evObj g = evId e
 rotate_left
 · have h1 : ∀ o, stepO e o g = o := fun o => if_neg hg
   rw [h1, h1]
 have sf : ∀ o, stepO e o f = if f.kind = 7 then (if idLt o.last.1 o.last.2 f.rep f.seq = true then { o with last := evId f, name := f.name } else o)
  else if f.kind = 6 then { o with seen := vJoin o.seen (withV f.dep f.rep f.seq) } else o := fun o => if_pos hf
 have sg : ∀ o, stepO e o g = if g.kind = 7 then (if idLt o.last.1 o.last.2 g.rep g.seq = true then { o with last := evId g, name := g.name } else o)
  else if g.kind = 6 then { o with seen := vJoin o.seen (withV g.dep g.rep g.seq) } else o := fun o => if_pos hg
 rw [sf, sg, sg, sf]
 by_cases f7 : f.kind = 7
 · by_cases g7 : g.kind = 7
   · simp only [f7, g7, if_true]
     have key : ∀ a b : Idn, idLt a.1 a.2 b.1 b.2 = ilt a b := fun _ _ => rfl
     by_cases c1 : ilt o.last (evId f) = true <;> by_cases c2 : ilt o.last (evId g) = true
     · have c1' : idLt o.last.1 o.last.2 f.rep f.seq = true := c1
       have c2' : idLt o.last.1 o.last.2 g.rep g.seq = true := c2
       simp only [c1', c2', if_true]
       by_cases c3 : idLt f.rep f.seq g.rep g.seq = true
       · have c4 : ¬ idLt g.rep g.seq f.rep f.seq = true := ilt_as (a := evId f) (b := evId g) c3
         simp only [c3, c4, if_true, if_false, Bool.false_eq_true]
       · have c4 : idLt g.rep g.seq f.rep f.seq = true := ilt_tot (a := evId f) (b := evId g) c3 hne
         simp only [c3, c4, if_true, if_false, Bool.false_eq_true]
     · have c1' : idLt o.last.1 o.last.2 f.rep f.seq = true := c1
       have c2' : ¬ idLt o.last.1 o.last.2 g.rep g.seq = true := c2
       have c3 : ¬ idLt f.rep f.seq g.rep g.seq = true := fun q => c2 (ilt_trans c1 q)
       simp only [c1', c2', c3, if_true, if_false, Bool.false_eq_true]
     · have c1' : ¬ idLt o.last.1 o.last.2 f.rep f.seq = true := c1
       have c2' : idLt o.last.1 o.last.2 g.rep g.seq = true := c2
       have c3 : ¬ idLt g.rep g.seq f.rep f.seq = true := fun q => c1 (ilt_trans c2 q)
       simp only [c1', c2', c3, if_true, if_false, Bool.false_eq_true]
     · have c1' : ¬ idLt o.last.1 o.last.2 f.rep f.seq = true := c1
       have c2' : ¬ idLt o.last.1 o.last.2 g.rep g.seq = true := c2
       simp only [c1', c2', if_false, Bool.false_eq_true]
   · simp only [if_pos f7, if_neg g7]
     by_cases g6 : g.kind = 6
     · simp only [if_pos g6]
       by_cases c1 : idLt o.last.1 o.last.2 f.rep f.seq = true
       · simp only [if_pos c1]
       · simp only [if_neg c1]
     · simp only [if_neg g6]
 · simp only [if_neg f7]
   by_cases f6 : f.kind = 6
   · simp only [if_pos f6]
     by_cases g7 : g.kind = 7
     · simp only [if_pos g7]
       by_cases c1 : idLt o.last.1 o.last.2 g.rep g.seq = true
       · simp only [if_pos c1]
       · simp only [if_neg c1]
     · simp only [if_neg g7]
       by_cases g6 : g.kind = 6
       · simp only [if_pos g6]
         rw [vJoin_assoc, vJoin_comm (withV f.dep f.rep f.seq), ← vJoin_assoc]
       · simp only [if_neg g6]
   · simp only [if_neg f6]
theorem objB_perm {l m : List Evt} (hl : NodE l) (hm : NodE m) (h : l.Perm m) (e : Evt) : objB l l e = objB m m e := by
 unfold objB
 rw [vers_perm hl hm h]
 refine fold_perm h _ fun x hx y hy z => ?_
 by_cases q : evId x = evId y
 · rw [nodE_eq hl hx hy q]
 · exact step_comm e z x y q
theorem objs_perm {l m : List Evt} (hl : NodE l) (hm : NodE m) (h : l.Perm m) : (buildS l).objs = (buildS m).objs := by
 obtain ⟨s1, _, m1⟩ := mem_objs hl
 obtain ⟨s2, _, m2⟩ := mem_objs hm
 refine sortO_ext s1 s2 fun x => ?_
 rw [m1, m2]
 constructor
 · rintro ⟨g, hg, hc, rfl⟩; exact ⟨g, h.mem_iff.1 hg, hc, objB_perm hl hm h g⟩
 · rintro ⟨g, hg, hc, rfl⟩; exact ⟨g, h.mem_iff.2 hg, hc, (objB_perm hl hm h g).symm⟩
structure Wd where
 w : Nat → Int
 v : Vc
 r : Nat → Bool
def wStep (p : Wd) (e : Evt) : Wd :=
 if e.kind = 8 then (if getV p.v e.rep < e.seq then ⟨setV p.w (e.rep - 1).toNat e.ward, withV p.v e.rep e.seq, p.r⟩ else p)
 else if e.kind = 9 then ⟨p.w, p.v, setV p.r (e.rep - 1).toNat true⟩ else p
def wG (m : List Evt) : Wd := m.foldl wStep ⟨fun _ => 0, fun _ => 0, fun _ => false⟩
theorem wG_bld (L : List Evt) : ∀ m : List Evt, (bldP L m).1.wards = (wG m).w ∧ (bldP L m).2 = (wG m).v ∧ (bldP L m).1.ret = (wG m).r :=
 snocR ⟨rfl, rfl, rfl⟩ fun m e ⟨h1, h2, h3⟩ => by
  rw [bldP_snoc, show wG (m ++ [e]) = wStep (wG m) e by simp [wG]]
  unfold bStep wStep
  by_cases k12 : e.kind = 1 ∨ e.kind = 2
  · rw [if_pos k12, if_neg (by omega), if_neg (by omega)]; exact ⟨h1, h2, h3⟩
  rw [if_neg k12]
  by_cases k8 : e.kind = 8
  · rw [if_pos k8, if_pos k8, h2]
    split
    · exact ⟨by simp only [seatS, h1], by simp only [h2], h3⟩
    · exact ⟨h1, h2, h3⟩
  rw [if_neg k8, if_neg k8]
  by_cases k9 : e.kind = 9
  · rw [if_pos k9, if_pos k9]; exact ⟨h1, h2, by simp only [retS, h3]⟩
  rw [if_neg k9, if_neg k9]; exact ⟨h1, h2, h3⟩
theorem setV_comm {α : Type} (g : Nat → α) {i j : Nat} (h : i ≠ j) (x y : α) : setV (setV g i x) j y = setV (setV g j y) i x := by
 funext k; unfold setV
 by_cases h1 : k = i <;> by_cases h2 : k = j <;> simp_all
theorem setV_same {α : Type} (g : Nat → α) (i : Nat) (x y : α) : setV (setV g i x) i y = setV g i y := by
 funext k; unfold setV; split <;> simp_all
theorem getV_with {v : Vc} {r : Int} {q : Nat} (hr : 1 ≤ r ∧ r ≤ 8) (r' : Int) : getV (withV v r q) r' = if r' = r then max (getV v r) q else getV v r' := by
 unfold getV
 by_cases h : r' = r
 · rw [h, if_pos hr, if_pos rfl, if_pos hr, withV_at hr, if_pos rfl]
 · rw [if_neg h]
   by_cases h8 : 1 ≤ r' ∧ r' ≤ 8
   · rw [if_pos h8, if_pos h8, withV_at hr, if_neg (by omega)]
   · rw [if_neg h8, if_neg h8]
theorem wStep_comm (p : Wd) {e f : Evt} (he : 1 ≤ e.rep ∧ e.rep ≤ 8) (hf : 1 ≤ f.rep ∧ f.rep ≤ 8) (hne : evId e ≠ evId f) : wStep (wStep p e) f = wStep (wStep p f) e := by
 obtain ⟨w, v, r⟩ := p
 by_cases e8 : e.kind = 8
 · by_cases f8 : f.kind = 8
   · have se : ∀ p, wStep p e = if getV p.v e.rep < e.seq then ⟨setV p.w (e.rep - 1).toNat e.ward, withV p.v e.rep e.seq, p.r⟩ else p := fun p => if_pos e8
     have sf : ∀ p, wStep p f = if getV p.v f.rep < f.seq then ⟨setV p.w (f.rep - 1).toNat f.ward, withV p.v f.rep f.seq, p.r⟩ else p := fun p => if_pos f8
     rw [se, sf, sf, se]
     simp only
     by_cases hr : e.rep = f.rep
     · have hs : e.seq ≠ f.seq := fun q => hne (Prod.ext hr q)
       have hr' : (f.rep : Int) = e.rep := hr.symm
       by_cases c1 : getV v e.rep < e.seq <;> by_cases c2 : getV v e.rep < f.seq
       · simp only [hr', c1, c2, if_true, getV_with he]
         by_cases c3 : e.seq < f.seq
         · have d1 : max (getV v e.rep) e.seq < f.seq := by omega
           have d2 : ¬ max (getV v e.rep) f.seq < e.seq := by omega
           simp only [d1, d2, if_true, if_false, setV_same]
           congr 1
           funext i
           rw [withV_at he, withV_at he, withV_at he]
           have : getV v e.rep = v (e.rep - 1).toNat := if_pos he
           split
           · rename_i hi; rw [hi]; omega
           · rfl
         · have d1 : ¬ max (getV v e.rep) e.seq < f.seq := by omega
           have d2 : max (getV v e.rep) f.seq < e.seq := by omega
           simp only [d1, d2, if_true, if_false, setV_same]
           congr 1
           funext i
           rw [withV_at he, withV_at he, withV_at he]
           have : getV v e.rep = v (e.rep - 1).toNat := if_pos he
           split
           · rename_i hi; rw [hi]; omega
           · rfl
       · have d1 : ¬ max (getV v e.rep) e.seq < f.seq := by omega
         simp only [hr', c1, c2, d1, if_true, if_false, getV_with he]
       · have d1 : ¬ max (getV v e.rep) f.seq < e.seq := by omega
         simp only [hr', c1, c2, d1, if_true, if_false, getV_with he]
       · simp only [hr', c1, c2, if_false]
     · have hr' : ¬ f.rep = e.rep := fun q => hr q.symm
       have hi : (e.rep - 1).toNat ≠ (f.rep - 1).toNat := by omega
       by_cases c1 : getV v e.rep < e.seq <;> by_cases c2 : getV v f.rep < f.seq
       · simp only [c1, c2, if_true, getV_with he, getV_with hf, if_neg hr, if_neg hr']
         congr 1
         · exact setV_comm _ hi _ _
         · exact withV_com v (evId e) (evId f)
       · simp only [c1, c2, if_true, if_false, getV_with he, if_neg hr']
       · simp only [c1, c2, if_true, if_false, getV_with hf, if_neg hr]
       · simp only [c1, c2, if_false]
   · by_cases f9 : f.kind = 9
     · unfold wStep
       simp only [if_pos e8, if_neg f8, if_pos f9]
       split <;> rfl
     · have sf : ∀ p, wStep p f = p := fun p => by unfold wStep; rw [if_neg f8, if_neg f9]
       rw [sf, sf]
 by_cases e9 : e.kind = 9
 · by_cases f8 : f.kind = 8
   · unfold wStep
     simp only [if_neg e8, if_pos e9, if_pos f8]
     split <;> rfl
   · by_cases f9 : f.kind = 9
     · unfold wStep
       simp only [if_neg e8, if_pos e9, if_neg f8, if_pos f9]
       congr 1
       by_cases hi : (e.rep - 1).toNat = (f.rep - 1).toNat
       · rw [hi]
       · exact setV_comm _ hi _ _
     · have sf : ∀ p, wStep p f = p := fun p => by unfold wStep; rw [if_neg f8, if_neg f9]
       rw [sf, sf]
 · have se : ∀ p, wStep p e = p := fun p => by unfold wStep; rw [if_neg e8, if_neg e9]
   rw [se, se]
theorem wG_perm {l m : List Evt} (hl : NodE l) (hr : ∀ e ∈ l, 1 ≤ e.rep ∧ e.rep ≤ 8) (h : l.Perm m) : wG l = wG m := by
 refine fold_perm h _ fun x hx y hy z => ?_
 by_cases q : evId x = evId y
 · rw [nodE_eq hl hx hy q]
 · exact wStep_comm z (hr x hx) (hr y hy) q
theorem build_perm {l m : List Evt} (hl : Val l) (hm : Val m) (h : l.Perm m) : buildS l = buildS m := by
 obtain ⟨a1, a2, a3⟩ := wG_bld l l
 obtain ⟨b1, b2, b3⟩ := wG_bld m m
 have hw := wG_perm hl.nod (val_rep hl) h
 refine St.eq ?_ (objs_perm hl.nod hm.nod h) ?_ ?_ ?_
 · rw [bld_known, bld_known, known_perm h]
 · rw [bld_entsS, bld_entsS, ents_perm hl.nod hm.nod h]
 · show (bldP l l).1.wards = (bldP m m).1.wards
   rw [a1, b1, hw]
 · show (bldP l l).1.ret = (bldP m m).1.ret
   rw [a3, b3, hw]
theorem ret_iff (L : List Evt) (i : Nat) : ∀ m : List Evt, (bldP L m).1.ret i = true ↔ ∃ e ∈ m, e.kind = 9 ∧ (e.rep - 1).toNat = i := by
 intro m
 rw [(wG_bld L m).2.2]
 refine snocR (P := fun m => (wG m).r i = true ↔ ∃ e ∈ m, e.kind = 9 ∧ (e.rep - 1).toNat = i) (by simp [wG]) (fun m e ih => ?_) m
 rw [show wG (m ++ [e]) = wStep (wG m) e by simp [wG]]
 have grow : (∃ f ∈ m ++ [e], f.kind = 9 ∧ (f.rep - 1).toNat = i) ↔ (∃ f ∈ m, f.kind = 9 ∧ (f.rep - 1).toNat = i) ∨ (e.kind = 9 ∧ (e.rep - 1).toNat = i) := by
  simp only [List.mem_append, List.mem_singleton]
  constructor
  · rintro ⟨f, hf | rfl, h⟩
    · exact .inl ⟨f, hf, h⟩
    · exact .inr h
  · rintro (⟨f, hf, h⟩ | h)
    · exact ⟨f, .inl hf, h⟩
    · exact ⟨e, .inr rfl, h⟩
 rw [grow, ← ih]
 unfold wStep
 by_cases h8 : e.kind = 8
 · rw [if_pos h8]
   have : ¬ e.kind = 9 := by omega
   split <;> simp [this]
 rw [if_neg h8]
 by_cases h9 : e.kind = 9
 · rw [if_pos h9]
   simp only [setV]
   by_cases hi : i = (e.rep - 1).toNat
   · rw [if_pos hi]; simp [h9, hi]
   · rw [if_neg hi]; exact ⟨.inl, fun q => q.resolve_right fun q => hi q.2.symm⟩
 · rw [if_neg h9]; simp [h9]
theorem known_sub {l m : List Evt} (hl : Val l) (hm : Val m) (h : ∀ x ∈ l, x ∈ m) {i : Idn} (k : hasB (knownG l) i.1 i.2 = true) : hasB (knownG m) i.1 i.2 = true := by
 obtain ⟨e, he, hi⟩ := hl.has.1 k
 exact hm.has.2 ⟨e, h e he, hi⟩
theorem knownLe_sub {l m : List Evt} (hl : Val l) (hm : Val m) (h : ∀ x ∈ l, x ∈ m) : vLe (knownG l) (knownG m) := fun i hi => by
 by_cases h0 : knownG l i = 0
 · omega
 · have h1 : hasB (knownG l) ((i : Int) + 1, knownG l i).1 ((i : Int) + 1, knownG l i).2 = true := by
    rw [hasB_iff]
    simp only
    have : ((i : Int) + 1 - 1).toNat = i := by omega
    rw [this]; omega
   have h2 := known_sub hl hm h h1
   rw [hasB_iff] at h2
   simp only at h2
   have : ((i : Int) + 1 - 1).toNat = i := by omega
   rw [this] at h2; omega
theorem objAt_sub {l m : List Evt} (hl : Val l) (hm : Val m) (h : ∀ x ∈ l, x ∈ m) {i : Idn} {o : Obj} (ho : objAt (buildS l).objs i = some o) : ∃ o', objAt (buildS m).objs i = some o' ∧ o'.dir = o.dir ∧ ∃ f ∈ l, o = objB l l f ∧ o' = objB m m f := by
 obtain ⟨h1, h2⟩ := objAt_mem' ho
 obtain ⟨f, hf, hk, rfl⟩ := ((mem_objs hl.nod).2.2 o).1 h1
 obtain ⟨s2, _, m2⟩ := mem_objs hm.nod
 have := objAt_mem s2 ((m2 _).2 ⟨f, h f hf, hk, rfl⟩)
 rw [objB_id] at h2 this
 rw [h2] at this
 have hd : ∀ (L : List Evt), ∀ m : List Evt, (objB L m f).dir = decide (f.kind = 2) := fun L => snocR rfl fun m g ih => by
  rw [objB_snoc, (stepO_keep f g _).2.1, ih]
 exact ⟨_, this, by rw [hd, hd], f, hf, rfl, rfl⟩
theorem dirW_sub {l m : List Evt} (hl : Val l) (hm : Val m) (h : ∀ x ∈ l, x ∈ m) {i : Idn} (k : dirW (buildS l).objs i = 0) : dirW (buildS m).objs i = 0 := by
 rw [dirW_objAt] at k ⊢
 by_cases h0 : i = (0, 0)
 · rw [if_pos h0]
 rw [if_neg h0] at k ⊢
 cases ho : objAt (buildS l).objs i with
 | none => rw [ho] at k; cases k
 | some o =>
   rw [ho] at k
   obtain ⟨o', h1, h2, _⟩ := objAt_sub hl hm h ho
   rw [h1]
   simp only at k ⊢
   rw [h2]; exact k
theorem acc_sub {l m : List Evt} {e : Evt} (hl : Val l) (hm : Val m) (h : ∀ x ∈ l, x ∈ m) (ha : Acc (buildS l) e) (hnew : ∀ f ∈ m, evId f ≠ evId e) (hret : ∀ f ∈ m, f.kind = 9 → f.rep = e.rep → f ∈ l) : Acc (buildS m) e := by
 refine ⟨ha.ck, ?_, fun i hi => ?_, ?_, ?_⟩
 · cases hq : hasB (buildS m).known e.rep e.seq with
   | false => rfl
   | true =>
     rw [bld_known] at hq
     obtain ⟨f, hf, hi⟩ := (hm.has (i := evId e)).1 hq
     exact absurd hi (hnew f hf)
 · have h1 := ha.dep i hi
   rw [bld_known] at h1 ⊢
   exact Nat.le_trans h1 (knownLe_sub hl hm h i hi)
 · cases hq : (buildS m).ret (e.rep - 1).toNat with
   | false => rfl
   | true =>
     obtain ⟨f, hf, hk, hi⟩ := (ret_iff m _ m).1 hq
     have hb := check_base ha.ck
     have hfr := val_rep hm f hf
     have hr : f.rep = e.rep := by have := hb.1; have := hb.2.1; omega
     have := (ret_iff l (e.rep - 1).toNat l).2 ⟨f, hret f hf hk hr, hk, hi⟩
     have h4 : (bldP l l).1.ret (e.rep - 1).toNat = false := ha.ret
     rw [h4] at this; cases this
 · have hw := ha.why
   unfold whyD at hw ⊢
   by_cases h89 : e.kind = 8 ∨ e.kind = 9
   · rw [if_pos h89]
   rw [if_neg h89] at hw ⊢
   by_cases h12 : e.kind = 1 ∨ e.kind = 2
   · rw [if_pos h12] at hw ⊢; exact dirW_sub hl hm h hw
   rw [if_neg h12] at hw ⊢
   cases ho : objAt (buildS l).objs (evObj e) with
   | none => rw [ho] at hw; cases hw
   | some o =>
     rw [ho] at hw
     obtain ⟨o', h1, h2, f, hf, rfl, rfl⟩ := objAt_sub hl hm h ho
     rw [h1]
     simp only at hw ⊢
     by_cases h7 : e.kind = 7
     · rw [if_pos h7] at hw ⊢; exact dirW_sub hl hm h hw
     rw [if_neg h7] at hw ⊢
     by_cases h6 : e.kind = 6
     · rw [if_pos h6]
     rw [if_neg h6, h2]
     rw [if_neg h6] at hw
     by_cases hd : (objB l l f).dir = true
     · rw [if_pos hd] at hw; cases hw
     rw [if_neg hd] at hw ⊢
     by_cases hmi : missing (objB l l f).vers e.base.l
     · rw [if_pos hmi] at hw; cases hw
     rw [if_neg]
     rintro ⟨b, hb, hn⟩
     refine hmi ⟨b, hb, ?_⟩
     rw [findV_none] at hn ⊢
     intro v hv hs
     rw [objB_vers] at hv hn
     obtain ⟨g, hg, hc, rfl⟩ := ((mem_vers hl.nod (evId f)).2.2 v).1 hv
     exact hn (verB m m g) (((mem_vers hm.nod (evId f)).2.2 _).2 ⟨g, h g hg, hc, rfl⟩) hs
theorem perm_of {l m : List Evt} (hl : Val l) (hm : Val m) (h : ∀ x, x ∈ l ↔ x ∈ m) : l.Perm m := (List.perm_ext_iff_of_nodup (nodE_nodup hl.nod) (nodE_nodup hm.nod)).2 h
end Go.Proofs.Ythmjebkldgdeiaa.Fw
namespace Go.Proofs.Ythmjebkldgdeiaa.Fw
open Go.RowKit Go.Proofs
variable {P : Program}
theorem fun_varD (hm : P.follows .mixedOrders = true) {f N' : Nat} {rs : List Rv} {c : C} (hf : fnOf P f = some (N', rs, c)) {args : List SV} {h : Nat → Option Blk} {d : Nat} {x : SV} (hlen : args.length ≤ N')
 (hargs : SV.closedL args = true) (hx : x.closed = true) (hrun : ∀ F, sx (env P F N') c (RetW rs fun y g => ∃ n, y = .p n 0 ∧ g.h n = some (.var x)) (mk (argT 0 args) [])) :
 FunOk P f args h d (.p d 0) [.new d (.var x)] := by
 obtain ⟨h1, h2, h3⟩ := lentNames_nil hargs
 refine ⟨entered_of hf, fun F N ρ s a w hR hh vs hc => ?_⟩
 refine Calls.mono (call_after hm hf (h := h) hlen h2 retW_w (by rw [h3]; exact hrun) hR hh hc) fun e w' he => ?_
 obtain ⟨v, rfl, hg, N'', ρ', s', a', y, hR', hy, n, rfl, hn⟩ := he
 rw [h1, without_nil] at hR' hy
 simp only [Conc] at hy
 obtain ⟨b0, hy1, hy2⟩ := hy
 obtain ⟨b, vs', ty, fr, u, g1, g2, g3, g4, g5, g6, g7⟩ := hR'.own n _ hn
 have hown : ∀ b, idOf (ρ' n) = some b → w.heap.size ≤ b ∧ b < w'.heap.size := fun b hb => by
  have ho : owned ρ' s'.h b := ⟨n, _, hn, hb⟩
  exact ⟨(hR'.may b ho).resolve_right id, hR'.lt ho⟩
 have hle : (vw ⟨w, fun _ => False, F.out ρ s.h, fun _ => undef, []⟩ w' ρ' s').le (viewOf w' (F.out (upd ρ d (ρ' n)) ((s.kill d).seth d (some (.var x))).h)) := viewOf_le fun b' c' hno hc' => ⟨fun hb' => hno (by
  rcases hb' with ⟨m, z, hm1, hm2⟩ | hb'
  · simp only [FS.seth, FS.kill] at hm1
    by_cases hmd : m = d
    · subst hmd
      rw [upd_self] at hm2
      exact .inl ⟨n, _, hn, hm2⟩
    · rw [upd_ne hmd] at hm2
      simp only [hmd, if_false] at hm1
      obtain ⟨z', hz', _⟩ := Option.map_eq_some_iff.1 hm1
      exact .inr (.inl ⟨m, z', hz', hm2⟩)
  · exact .inr (.inr hb')), hc'⟩
 have hnew := hR.adopt hg d (.var x) (ρ' n) hown fun hV => ⟨b, vs', ty, fr, u, by rw [upd_self]; exact g1, g2, g3, closed_conc hle hx g4, g5, g6, g7⟩
 refine ⟨v, _, rfl, hnew.1, ?_⟩
 simp only [Conc]
 exact ⟨b0, by rw [upd_self]; exact hy1, hy2⟩
end Go.Proofs.Ythmjebkldgdeiaa.Fw
namespace Go.Proofs.Ythmjebkldgdeiaa.Fw
open Go.RowKit Go.Proofs
theorem okCloneID {f : Bool} {z : Nat} {es : List (List PV)} {h d} (hz : es = [] ∨ z = 2) (hb : es.length ≤ 1000) : FunOk Try.prog 51 [.pv (.sl f z es)] h d (.pv (.sl false 2 es)) [] := by
 refine fun_rowD mixed fn51 (by simp) rfl fun F => ?_
 simp (disch := omega) only [ir51, go_sem]
 intro b hb'
 cases b
 · simp (disch := omega) only [go_sem]
 · have he : es = [] := by
    cases es with
    | nil => rfl
    | cons c l => exact absurd (hb' (by simp)) (by simp)
   subst he
   (try simp only [bK1, bK2, bK3, bK4, bK5, bK6, bK7, bK8]); simp (disch := omega) only [go_sem]
   decide
theorem okClipEv {f : Bool} {z : Nat} {es : List (List PV)} (hz : es = [] ∨ z = 21) {h d} : FunOk Try.prog 30 [.pv (.sl f z es)] h d (.pv (.sl true z es)) [] := by
 refine fun_pure mixed fn30 (by simp) rfl rfl fun F => ?_
 have e := List.take_length (l := es)
 simp (disch := omega) only [ir30, hz, e, List.drop_zero, go_sem]
def canE (e : Evt) : Evt := { e with gone := ⟨false, 2, e.gone.l⟩, base := ⟨false, 2, e.base.l⟩ }
theorem canE_ev {e : Evt} (h : ev e) : ev (canE e) := ⟨.inr rfl, .inr rfl, h.2.2.1, h.2.2.2.1, h.2.2.2.2⟩
theorem spl_gone (e : Evt) (g : SlI) : splice (evE e) 16 [g.pv] = evE { e with gone := g } := by
 simp only [splice, evE, vE, arrF]; rfl
theorem spl_base (e : Evt) (g : SlI) : splice (evE e) 17 [g.pv] = evE { e with base := g } := by
 simp only [splice, evE, vE, arrF]; rfl
theorem okCloneEv (e : Evt) (he : ev e) {h d} : FunOk Try.prog 31 [.vec 21 (evE e)] h d (.vec 21 (evE (canE e))) [] := by
 refine fun_pure mixed fn31 (by simp) rfl rfl fun F => ?_
 obtain ⟨h1, h2, h3, h4, h5⟩ := he
 have hg : e.gone.pv = .sl e.gone.f e.gone.z (e.gone.l.map idE) := rfl
 have hb : e.base.pv = .sl e.base.f e.base.z (e.base.l.map idE) := rfl
 have hel := evE_len e
 have s1 := spl_gone e ⟨false, 2, e.gone.l⟩
 have s2 := spl_base { e with gone := ⟨false, 2, e.gone.l⟩ } ⟨false, 2, e.base.l⟩
 simp only [SlI.pv] at s1 s2
 simp (disch := omega) only [ir31, ld_ev16, ld_ev17, hg, hb, go_sem]
 refine call_with (okCloneID (es := e.gone.l.map idE) (h1.imp (fun q => by rw [q]; rfl) id) (by rw [List.length_map]; omega)) ?_
 simp (disch := omega) only [ld_ev17, hb, go_sem]
 refine call_with (okCloneID (es := e.base.l.map idE) (h2.imp (fun q => by rw [q]; rfl) id) (by rw [List.length_map]; omega)) ?_
 simp (disch := omega) only [hel, s1, s2, ld_ev, go_sem]
 rfl
def segH (S : St) (fl : Vc) (f : Bool) (z : Nat) (L : List Evt) : List SV := segS S ++ [.vec 8 (vE fl), .pv (.sl f z (L.map evE))]
def hiV (S : St) (fl : Vc) (L : List Evt) : SV := .agg (segH S fl false 21 L)
theorem okStartH {S : St} (hS : Fine S) {h d} : FunOk Try.prog 9 [.agg (segS S)] h d (.p d 0) [.new d (.var (hiV S S.known []))] := by
 refine fun_varD mixed fn9 (by simp) rfl rfl fun F => ?_
 simp (disch := omega) only [ir9, segS, segX, go_sem]
 refine call_with (okCloneSD (s := S) hS) ?_
 simp (disch := omega) only [segS, segX, go_sem]
 have hi : Imp (.agg (segS S ++ [.vec 8 (vE S.known), .pv (.sl true 0 [])])) (hiV S S.known []) :=
  imp_aggS (l := [.vec 8 (vE S.known), .pv (.sl false 15 (S.objs.map objE)), .pv (.sl false 15 (S.ents.map entE)), .vec 8 (iE S.wards), .vec 8 (wE S.ret), .vec 8 (vE S.known), .pv (.sl true 0 [])]) (m := [.vec 8 (vE S.known), .pv (.sl false 15 (S.objs.map objE)), .pv (.sl false 15 (S.ents.map entE)), .vec 8 (iE S.wards), .vec 8 (wE S.ret), .vec 8 (vE S.known), .pv (.sl false 21 [])]) ⟨⟨Imp.refl _, rfl⟩, ⟨Imp.refl _, rfl⟩, ⟨Imp.refl _, rfl⟩, ⟨Imp.refl _, rfl⟩, ⟨Imp.refl _, rfl⟩, ⟨Imp.refl _, rfl⟩, ⟨imp_pv (pimp_sl (fun q => by cases q) (.inl rfl) (.refl _)), rfl⟩, trivial⟩
 refine ⟨mk [(2, .p 8 0)] [(8, some (.var (hiV S S.known [])))], weak_mk ?_ ?_, ?_⟩
 · simp (disch := omega) only [go_sem]
 · simp (disch := omega) only [go_sem]
   exact ⟨hi, rfl⟩
 (try simp only [bK1, bK2, bK3, bK4, bK5, bK6, bK7, bK8]); simp (disch := omega) only [go_sem]
 exact ⟨8, rfl, if_pos rfl⟩
end Go.Proofs.Ythmjebkldgdeiaa.Fw
namespace Go.Proofs.Ythmjebkldgdeiaa.Fw
open Go.RowKit Go.Proofs
theorem okKnownH {S : St} {fl : Vc} {L : List Evt}  {g : Nat} {h d} (hg : h g = some (.var (hiV S fl L))) : FunOk Try.prog 12 [.p g 0] h d (.vec 8 (vE S.known)) [] := by
 refine FunOk.quiet (g := g) (blk := .var (hiV S fl L)) ?_ hg (by simp [tops, tn])
 refine FunOk.io (fun h d hg => ?_) rfl rfl rfl rfl hg
 refine fun_io1 (g := 900) mixed fn12 (by simp) (by simp [tops, tn]) (by simp [tops, tn]) hg rfl (by simp [Blk.ptr, SV.kill]) rfl (fun _ => rfl) fun F => ?_
 simp (disch := omega) only [ir12, hiV, segH, segS, segX, Blk.ptr, List.length_map, List.cons_append, List.nil_append, go_sem]
 skip
 refine ⟨_, .same _, ?_⟩
 (try simp only [bK1, bK2, bK3, bK4, bK5, bK6, bK7, bK8]); simp (disch := omega) only [go_sem]
 exact ⟨900, rfl, rfl⟩
theorem okLenH {S : St} {fl : Vc} {L : List Evt}  {g : Nat} {h d} (hg : h g = some (.var (hiV S fl L))) : FunOk Try.prog 27 [.p g 0] h d (.pv (.i .i64 L.length)) [] := by
 refine FunOk.quiet (g := g) (blk := .var (hiV S fl L)) ?_ hg (by simp [tops, tn])
 refine FunOk.io (fun h d hg => ?_) rfl rfl rfl rfl hg
 refine fun_io1 (g := 900) mixed fn27 (by simp) (by simp [tops, tn]) (by simp [tops, tn]) hg rfl (by simp [Blk.ptr, SV.kill]) rfl (fun _ => rfl) fun F => ?_
 simp (disch := omega) only [ir27, hiV, segH, segS, segX, Blk.ptr, List.length_map, List.cons_append, List.nil_append, go_sem]
 skip
 refine ⟨_, .same _, ?_⟩
 (try simp only [bK1, bK2, bK3, bK4, bK5, bK6, bK7, bK8]); simp (disch := omega) only [go_sem]
 exact ⟨900, rfl, rfl⟩
theorem okStateH {S : St} {fl : Vc} {L : List Evt} (hS : Fine S) {g : Nat} {h d} (hg : h g = some (.var (hiV S fl L))) : FunOk Try.prog 19 [.p g 0] h d (.agg (segS S)) [] := by
 refine FunOk.quiet (g := g) (blk := .var (hiV S fl L)) ?_ hg (by simp [tops, tn])
 refine FunOk.io (fun h d hg => ?_) rfl rfl rfl rfl hg
 refine fun_io1 (g := 900) mixed fn19 (by simp) (by simp [tops, tn]) (by simp [tops, tn]) hg rfl (by simp [Blk.ptr, SV.kill]) rfl (fun _ => rfl) fun F => ?_
 simp (disch := omega) only [ir19, hiV, segH, segS, segX, Blk.ptr, List.cons_append, List.nil_append, go_sem]
 refine call_with (okCloneSD (s := S) hS) ?_
 simp (disch := omega) only [segS, segX, go_sem]
 refine ⟨_, .same _, ?_⟩
 (try simp only [bK1, bK2, bK3, bK4, bK5, bK6, bK7, bK8]); simp (disch := omega) only [go_sem]
 exact ⟨900, rfl, rfl⟩
def allF (m : Nat) (v : Vc) (L : List Evt) : SV := .fn (.func m) [.pi 1 [[.sl true 21 (L.map evE)]] 0 0, .pi 8 [vE v] 0 0]
theorem okSinceH {S : St} {fl : Vc} {L : List Evt} (v : Vc) (hv : vLe fl v) {g : Nat} {h d} (hg : h g = some (.var (hiV S fl L))) : FunOk Try.prog 13 [.p g 0, .vec 8 (vE v)] h d (.tup [allF 33 v L, .pv (.i .i64 0)]) [] := by
 refine FunOk.quiet (g := g) (blk := .var (hiV S fl L)) ?_ hg (by simp [tops, tn])
 refine FunOk.io (fun h d hg => ?_) rfl rfl rfl rfl hg
 refine fun_io1 (g := 900) mixed fn13 (by simp) (by simp [tops, tn]) (by simp [tops, tn]) hg rfl (by simp [Blk.ptr, SV.kill]) rfl (fun _ => rfl) fun F => ?_
 have hv' := decide_eq_true hv
 simp (disch := omega) only [ir13, hiV, segH, segS, segX, Blk.ptr, List.cons_append, List.nil_append, go_sem]
 refine call_with (okLeq _ _) ?_
 simp (disch := omega) only [hv', go_sem]
 refine call_with (okClipEv (.inr rfl)) ?_
 simp (disch := omega) only [allF, go_sem]
 refine ⟨_, wk_frzv 6 (x := .pv (.sl true 21 (L.map evE))) (cs := [.sl true 21 (L.map evE)]) rfl rfl (wk_frzv 3 (x := .vec 8 (vE v)) (cs := vE v) rfl rfl (.same _)), ?_⟩
 (try simp only [bK1, bK2, bK3, bK4, bK5, bK6, bK7, bK8]); simp (disch := omega) only [go_sem]
 exact ⟨900, rfl, rfl⟩
noncomputable def addHS (S : St) (e : Evt) : St := if whyS S e = 0 then applyS S e else S
open Classical in
noncomputable def addHL (S : St) (L : List Evt) (e : Evt) : List Evt := if whyS S e = 0 then L ++ [canE e] else L
set_option maxHeartbeats 2000000 in
theorem okAddH {S : St} {fl : Vc} {L : List Evt} {e : Evt} (hs : StIn S) (he : ev e) (hn : L.length ≤ 1000) {g : Nat} {h d} (hg : h g = some (.var (hiV S fl L))) : FunOk Try.prog 10 [.p g 0, .vec 21 (evE e)] h d (.pv (.i .i64 (whyS S e))) [.upd g (.var (hiV (addHS S e) fl (addHL S L e)))] := by
 refine FunOk.io (fun h d hg => ?_) rfl rfl rfl rfl hg
 refine fun_io1 (g := 900) mixed fn10 (by simp) (by simp [tops, tn]) (by simp [tops, tn]) hg rfl (by simp [Blk.ptr, SV.kill]) rfl (fun _ => rfl) fun F => ?_
 have hel := evE_len e
 have hel2 := evE_len (canE e)
 simp (disch := omega) only [ir10, hiV, segH, segS, segX, Blk.ptr, List.cons_append, List.nil_append, ld_ev, hel, go_sem]
 refine call_with (okApply (s := S) hs he) ?_
 by_cases hw : whyS S e = 0
 · have e1 : resS S e = addHS S e := by unfold resS addHS; rw [if_pos hw, if_pos hw]
   have e2 : addHL S L e = L ++ [canE e] := if_pos hw
   rw [e1, hw]
   simp (disch := omega) only [segS, segX, go_sem]
   refine call_with (okClipEv (.inr rfl)) ?_
   simp (disch := omega) only [ld_ev, hel, go_sem]
   refine call_with (okCloneEv e he) ?_
   simp (disch := omega) only [hel2, go_sem]
   refine ⟨fun q => (by cases q), _, wk_frz 34 rfl (.same _), ?_⟩
   (try simp only [bK1, bK2, bK3, bK4, bK5, bK6, bK7, bK8]); simp (maxSteps := 10000000) (disch := omega) only [e2, List.map_append, List.map_cons, List.map_nil, go_sem]
   exact ⟨900, rfl, rfl⟩
 · have e1 : addHS S e = S := if_neg hw
   have e2 : addHL S L e = L := if_neg hw
   rw [e1, e2]
   simp (disch := omega) only [segS, segX, hw, go_sem]
   refine ⟨_, .same _, ?_⟩
   (try simp only [bK1, bK2, bK3, bK4, bK5, bK6, bK7, bK8]); simp (disch := omega) only [go_sem]
   exact ⟨900, rfl, rfl⟩
def evA : Evt := ⟨1, 1, fun _ => 0, 1, 0, 0, 0, 0, [97], .nil, .nil, 0, [], 0⟩
theorem ck_A : checkB evA = true := by
 have h1 : BaseP evA := ⟨by decide, by decide, by decide, by decide, rfl, by decide, by decide⟩
 have h2 : DepP evA := fun i _ => by simp [evA]
 rw [check_zk h1 h2, zb_1 rfl, kindK_1 rfl]
 decide
theorem ev_A : ev evA := ⟨.inl rfl, .inl rfl, by decide, by decide, by decide⟩
theorem acc_A : Acc (buildS []) evA := ⟨ck_A, rfl, fun i _ => Nat.le_refl _, rfl, rfl⟩
theorem why_A : whyS (buildS []) evA = 0 := acc_iff.2 acc_A
theorem bld_A : buildS [evA] = applyS (buildS []) evA := build_snoc (l := []) Val.nil acc_A
theorem add_A : addHS (buildS []) evA = buildS [evA] := by unfold addHS; rw [if_pos why_A, bld_A]
theorem addL_A : addHL (buildS []) [] evA = [canE evA] := by unfold addHL; rw [if_pos why_A]; rfl
theorem fine0' : Fine (buildS []) := (val_in Val.nil (by simp)).fine
theorem imp_v0 : Imp (.vec 8 [.i .u32 0, .i .u32 0, .i .u32 0, .i .u32 0, .i .u32 0, .i .u32 0, .i .u32 0, .i .u32 0]) (.vec 8 (vE fun _ => 0)) := Imp.refl _
theorem k_hi (n : Nat) (S : St) (fl : Vc) (L : List Evt) : SV.kill n (hiV S fl L) = hiV S fl L := rfl
theorem w_hi (S : St) (fl : Vc) (L : List Evt) : SV.width (hiV S fl L) = 35 := rfl
theorem f_hi (n : Nat) (p : PV) (S : St) (fl : Vc) (L : List Evt) : SV.frz n p (hiV S fl L) = hiV S fl L := rfl
attribute [go_sem] k_hi w_hi f_hi
theorem canE_can (e : Evt) : canE (canE e) = canE e := rfl
theorem kn_nil : (buildS []).known = fun _ => 0 := rfl
theorem ld_slE (es : List (List PV)) (f : Bool) (z : Nat) (K : KK) : LoadK (some [.sl f z es]) 0 1 false K = K (.pv (.sl f z es)) [] := by
 simp only [LoadK, ldX, eq_iff_iff]
 exact ⟨fun h => h.2.2, fun h => ⟨by simp, .inr trivial, h⟩⟩
theorem ps_1 (p : Nat) (hp : p < 1000) : ∀ q ∈ [p], q < big := by
 intro q hq
 have : big = 1000000 := rfl
 simp at hq; omega
noncomputable def stL16 (l0 j : Nat) : FS := mk [(8, .pv (.i .i64 j)), (7, .pv (.i .i64 1)), (6, .pv (.sl true 21 [evE (canE evA)])), (0, .fn (.yield l0) []), (2, .pi 8 [vE fun _ => 0] 0 0), (1000000, .pv (.i .i64 0)), (1000001, .p 0 0), (1000002, .p 7 0), (1000005, .p 4 0)] [(0, some (.var (.pv (.b false)))), (4, some (.var (.pv (.i .i64 j)))), (7, some (.var (hiV (buildS [evA]) (fun _ => 0) [canE evA])))]
set_option maxHeartbeats 4000000 in
theorem okLives16 {h d} : FunOk Try.prog 7 [] h d (.pv (.b true)) [] := by
 refine fun_pure mixed fn7 (by simp) rfl rfl fun F => ?_
 simp (disch := omega) only [ir7, go_sem]
 refine call_with (FunOk.imp (okStartH (S := buildS []) fine0') ⟨seg0_imp, trivial⟩ (by simp [tops, tn, tops_seg])) ?_
 simp (disch := omega) only [kn_nil, go_sem]
 refine call_with (FunOk.imp (okAddH (S := buildS []) (L := []) (e := evA) (val_in Val.nil (by simp)) ev_A (by simp) rfl) ⟨Imp.refl _, imp_agg (cs := evE evA) rfl (evE_len _), trivial⟩ (by simp [tops, tn])) ?_
 rw [why_A, add_A, addL_A]
 simp (disch := omega) only [go_sem]
 refine call_with (FunOk.imp (okSinceH (S := buildS [evA]) (L := [canE evA]) (fun _ => 0) (fun i _ => Nat.le_refl _) rfl) ⟨Imp.refl _, imp_v0, trivial⟩ (by simp [tops, tn])) ?_
 simp (disch := omega) only [allF, go_sem]
 refine rng_ok mixed fn33 (by simp) fun l0 XI hc => ?_
 rw [enter_mk _ _ _ (by show 3 ≤ 1000000; omega)]
 simp (disch := omega) only [ir33, List.map_cons, List.map_nil, List.getElem?_cons_zero, ld_slE, List.length_cons, List.length_nil, go_sem]
 refine loop_ok mixed (stL16 l0) (fun k => k ≤ 1) (fun k => 1 - k) 0 (by simp) (weak_mk ?_ ?_) fun k hk => ?_
 · simp (disch := omega) only [go_sem]
 · simp (disch := omega) only [go_sem]
 by_cases hlt : k < 1
 · obtain rfl : k = 0 := by omega
   have hel := evE_len (canE evA)
   have hnm : (canE evA).name = [97] := rfl
   have hh : hasB (fun _ => 0) (canE evA).rep (canE evA).seq = false := rfl
   simp (disch := omega) only [stL16, List.getElem?_cons_zero, List.length_cons, List.length_nil, ld_ev, hel, load_vE8, ld_evId, go_sem]
   refine call_with (okHasV _ _ _) ?_
   simp (disch := omega) only [hh, ld_ev, hel, go_sem]
   refine call_with (okCloneEv (canE evA) (canE_ev ev_A)) ?_
   rw [canE_can]
   simp (disch := omega) only [go_sem]
   refine yld_ok mixed hc ?_ rfl fun XA XB => ?_
   · simp (disch := omega) only [go_sem]
   rw [round_mk _ _ _ _ (ps_1 30 (by decide))]
   simp (disch := omega) only [ld_ev, hel, ld_ev15, hnm, go_sem]
   refine loop_next (x := (0 : Nat)) (1 : Nat) _ _ rfl (by omega) (by omega) ?_ ?_
   · simp (disch := omega) only [go_sem]
   · simp (disch := omega) only [go_sem]
 · obtain rfl : k = 1 := by omega
   simp (disch := omega) only [stL16, List.length_cons, List.length_nil, go_sem]
   refine call_with (okLenH (S := buildS [evA]) (L := [canE evA]) rfl) ?_
   simp (disch := omega) only [List.length_cons, List.length_nil, go_sem]
   refine call_with (okKnownH (S := buildS [evA]) (L := [canE evA]) rfl) ?_
   have hv1 : vE (buildS [evA]).known = [.i .u32 1, .i .u32 0, .i .u32 0, .i .u32 0, .i .u32 0, .i .u32 0, .i .u32 0, .i .u32 0] := by rw [bld_known]; rfl
   have hpq : peq (vE (buildS [evA]).known) [.i .u32 1, .i .u32 0, .i .u32 0, .i .u32 0, .i .u32 0, .i .u32 0, .i .u32 0, .i .u32 0] = true := by rw [hv1]; exact peq_refl _
   have hfi := fitsV8 (buildS [evA]).known
   have hf2 : fits [K1.int .u32, .int .u32, .int .u32, .int .u32, .int .u32, .int .u32, .int .u32, .int .u32] [.i .u32 1, .i .u32 0, .i .u32 0, .i .u32 0, .i .u32 0, .i .u32 0, .i .u32 0, .i .u32 0] = True := eq_true rfl
   simp (disch := omega) only [hpq, hfi, hf2, go_sem]
end Go.Proofs.Ythmjebkldgdeiaa.Fw
namespace Go.Proofs.Ythmjebkldgdeiaa.Fw
open Go.RowKit Go.Proofs
def FitsH (l : List Evt) : Prop := l.length ≤ 25 ∧ ∀ e ∈ l, FitE e
open Classical in
noncomputable def fitsH (l : List Evt) : Bool := decide (FitsH l)
theorem fitsH_t {l : List Evt} (h : FitsH l) : fitsH l = true := by simp [fitsH, h]
theorem fitsH_f {l : List Evt} (h : ¬ FitsH l) : fitsH l = false := by simp [fitsH, h]
def stFitH (f : Bool) (l : List Evt) (k : Nat) : FS := mk [(10, .pv (.i .i64 k)), (9, .pv (.i .i64 l.length)), (8, .pv (.sl f 21 (l.map evE)))] []
set_option maxHeartbeats 2000000 in
theorem okFits16 {x : SV} {f : Bool} {l : List Evt} {h d} (hx : lents h [x] = [.pv (.sl f 21 (l.map evE))]) (hl : lendable [x] = true) :
 FunOk Try.prog 8 [x] h d (.pv (.b (fitsH l))) [] := by
 refine fun_scalar mixed fn8 (by simp) hl rfl fun F => ?_
 rw [hx]
 by_cases h30 : 25 < (l.length : Int)
 · have hf := fitsH_f (l := l) fun h => by have := h.1; omega
   simp (disch := omega) only [ir8, List.length_map, hf, go_sem]
 simp (disch := omega) only [ir8, List.length_map, go_sem]
 refine loop_ok mixed (stFitH f l) (fun k => k ≤ l.length ∧ ∀ j e, j < k → l[j]? = some e → FitE e) (fun k => l.length - k) 0 ⟨by simp, fun j e hj => absurd hj (Nat.not_lt_zero j)⟩ (weak_mk ?_ ?_) fun k hk => ?_
 · simp (disch := omega) only [List.length_map, go_sem]
 · simp (disch := omega) only [go_sem]
 obtain ⟨hk1, hk2⟩ := hk
 by_cases hlt : k < l.length
 · have hx' : l[k]? = some l[k] := List.getElem?_eq_getElem hlt
   have he : (l.map evE)[k]? = some (evE l[k]) := by rw [List.getElem?_map, hx']; rfl
   have hm := List.getElem_mem hlt
   generalize l[k] = e at *
   have hel := evE_len e
   have hg : e.gone.pv = .sl e.gone.f e.gone.z (e.gone.l.map idE) := rfl
   have hb : e.base.pv = .sl e.base.f e.base.z (e.base.l.map idE) := rfl
   have hno : ¬ FitE e → fitsH l = false := fun q => fitsH_f fun h => q (h.2 e hm)
   by_cases c1 : 30 < (e.name.length : Int)
   · have hf := hno fun q => by have := q.1; omega
     simp (disch := omega) only [stFitH, List.length_map, he, ld_ev, hel, ld_ev15, c1, hf, go_sem]
   by_cases c2 : 250 < (e.data.length : Int)
   · have hf := hno fun q => by have := q.2.1; omega
     simp (disch := omega) only [stFitH, List.length_map, he, ld_ev, hel, ld_ev15, c1, ld_ev19, c2, hf, go_sem]
   by_cases c3 : 10 < (e.gone.l.length : Int)
   · have hf := hno fun q => by have := q.2.2.1; omega
     simp (disch := omega) only [stFitH, List.length_map, he, ld_ev, hel, ld_ev15, c1, ld_ev19, c2, ld_ev16, hg, c3, hf, go_sem]
   by_cases c4 : 10 < (e.base.l.length : Int)
   · have hf := hno fun q => by have := q.2.2.2; omega
     simp (disch := omega) only [stFitH, List.length_map, he, ld_ev, hel, ld_ev15, c1, ld_ev19, c2, ld_ev16, hg, c3, ld_ev17, hb, c4, hf, go_sem]
   simp (disch := omega) only [stFitH, List.length_map, he, ld_ev, hel, ld_ev15, c1, ld_ev19, c2, ld_ev16, hg, c3, ld_ev17, hb, c4, go_sem]
   refine loop_next (k + 1) _ _ rfl ⟨by omega, fun j x hj hjx => ?_⟩ (by omega) ?_ ?_
   · by_cases ej : j = k
     · subst ej; rw [hx'] at hjx; cases hjx; exact ⟨by omega, by omega, by omega, by omega⟩
     · exact hk2 j x (by omega) hjx
   · simp (disch := omega) only [go_sem]
   · simp (disch := omega) only [go_sem]
 · obtain rfl : k = l.length := by omega
   have hf := fitsH_t (l := l) ⟨by omega, fun e he => by
    obtain ⟨j, hj⟩ := List.mem_iff_getElem?.1 he
    exact hk2 j e (List.getElem?_eq_some_iff.1 hj).1 hj⟩
   simp (disch := omega) only [stFitH, hf, go_sem]
def stMeetR (a b : Vc) (k : Nat) : FS := mk [(6, .pv (.i .i64 k)), (5, .p 5 0), (4, .p 4 0), (3, .p 3 0), (2, .p 2 0)] [(2, some (.var (.vec 8 (vE a)))), (3, some (.var (.vec 8 (vE b)))), (5, some (.var (.vec 8 (vE fun i => if i < k then vMeet a b i else 0)))), (4, some (.var (.vec 8 (vE fun _ => 0))))]
theorem okMeetR (a b : Vc) {h d} : FunOk Try.prog 11 [.vec 8 (vE a), .vec 8 (vE b)] h d (.vec 8 (vE (vMeet a b))) [] := by
 refine fun_pure mixed fn11 (by simp) rfl rfl fun F => ?_
 simp (disch := omega) only [ir11, go_sem]
 refine loop_ok mixed (stMeetR a b) (fun k => k ≤ 8) (fun k => 8 - k) 0 (by simp) (weak_mk ?_ ?_) fun k hk => ?_
 · simp (disch := omega) only [go_sem]
 · simp (disch := omega) only [vE_none, go_sem]
 by_cases hlt : k < 8
 · by_cases hc : b k < a k
   · simp (disch := omega) only [stMeetR, go_sem]
     refine loop_next (k + 1) _ _ rfl (by omega) (by omega) ?_ ?_
     · simp (disch := omega) only [go_sem]
     · simp (disch := omega) only [go_sem]
       exact imp_vec (vE_ext fun i hi => by simp only [setV, vMeet]; grind)
   · simp (disch := omega) only [stMeetR, go_sem]
     refine loop_next (k + 1) _ _ rfl (by omega) (by omega) ?_ ?_
     · simp (disch := omega) only [go_sem]
     · simp (disch := omega) only [go_sem]
       exact imp_vec (vE_ext fun i hi => by simp only [setV, vMeet]; grind)
 · simp (disch := omega) only [stMeetR, vE_all, go_sem]
theorem addH_eq {T : List Evt} {e : Evt} (h : Val T) : addHS (buildS T) e = buildS (takS T e) ∧ addHL (buildS T) (T.map canE) e = (takS T e).map canE := by
 unfold addHS addHL takS
 by_cases hw : whyS (buildS T) e = 0
 · rw [if_pos hw, if_pos hw, if_pos hw, build_snoc h (acc_iff.1 hw)]
   exact ⟨rfl, by simp⟩
 · rw [if_neg hw, if_neg hw, if_neg hw]; exact ⟨rfl, rfl⟩
end Go.Proofs.Ythmjebkldgdeiaa.Fw
