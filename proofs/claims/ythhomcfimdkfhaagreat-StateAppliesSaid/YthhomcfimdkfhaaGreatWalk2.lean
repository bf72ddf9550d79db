/- What the functions compute that the laws of this seat reach. -/
import Derived.Test.YthhomcfimdkfhaaGreatWalk1
import Derived.OpenShut
import Derived.ShutString
import Derived.ChangeOld
import Derived.SizedLaws
import Derived.ChangeOld
import Derived.Lib.Bytealg
import Derived.Lib.Overlaps
import Derived.OpenShut
import Derived.ShutString
import Derived.SizedLaws
set_option linter.unusedVariables false
set_option linter.unusedSimpArgs false
set_option linter.unusedSectionVars false
set_option maxRecDepth 100000
namespace Go.Proofs.YthhomcfimdkfhaaGreat.Fw
open Go.RowKit Go.Proofs
structure Obj where
 id : Idn
 dir : Bool
 last : Idn
 name : List UInt8
 seen : Vc
 vers : List Ver
def objF (f : Bool) (z : Nat) (o : Obj) : List PV := [.i .i64 o.id.1, .i .u32 o.id.2, .b o.dir, .i .i64 o.last.1, .i .u32 o.last.2, .s o.name] ++ vE o.seen ++ [.sl f z (o.vers.map verE)]
def objE (o : Obj) : List PV := objF false 11 o
theorem objF_len (f z) (o : Obj) : (objF f z o).length = 15 := by simp [objF, vE_length]
theorem objE_len (o : Obj) : (objE o).length = 15 := objF_len _ _ o
theorem obj_imp {f : Bool} {z : Nat} (o : Obj) (h : o.vers = [] ∨ z = 11) : PImpL (objF f z o) (objE o) := by
 refine PImpL.app (PImpL.refl _) ⟨pimp_sl (by simp) (h.imp (fun e => by rw [e]; rfl) id) (.refl _), trivial⟩
theorem ldf_objId (f : Bool) (z : Nat) (o : Obj) (K : KK) : LoadK (some (objF f z o)) 0 2 true K = K (.vec 2 ([.i .i64 o.id.1, .i .u32 o.id.2])) [] := by
 simp only [LoadK, ldX, eq_iff_iff]
 have e : ((objF f z o).drop 0).take 2 = [.i .i64 o.id.1, .i .u32 o.id.2] := by
  obtain ⟨i, b, l, n, s, v⟩ := o
  simp only [objF, vE, arrF]; rfl
 rw [e]
 exact ⟨fun h => h.2.2, fun h => ⟨by simp [objF_len], .inl trivial, h⟩⟩
theorem ldf_objLast (f : Bool) (z : Nat) (o : Obj) (K : KK) : LoadK (some (objF f z o)) 3 2 true K = K (.vec 2 ([.i .i64 o.last.1, .i .u32 o.last.2])) [] := by
 simp only [LoadK, ldX, eq_iff_iff]
 have e : ((objF f z o).drop 3).take 2 = [.i .i64 o.last.1, .i .u32 o.last.2] := by
  obtain ⟨i, b, l, n, s, v⟩ := o
  simp only [objF, vE, arrF]; rfl
 rw [e]
 exact ⟨fun h => h.2.2, fun h => ⟨by simp [objF_len], .inl trivial, h⟩⟩
theorem ldf_objSeen (f : Bool) (z : Nat) (o : Obj) (K : KK) : LoadK (some (objF f z o)) 6 8 true K = K (.vec 8 (vE o.seen)) [] := by
 simp only [LoadK, ldX, eq_iff_iff]
 have e : ((objF f z o).drop 6).take 8 = vE o.seen := by
  obtain ⟨i, b, l, n, s, v⟩ := o
  simp only [objF, vE, arrF]; rfl
 rw [e]
 exact ⟨fun h => h.2.2, fun h => ⟨by simp [objF_len], .inl trivial, h⟩⟩
theorem ldf_objDir (f : Bool) (z : Nat) (o : Obj) (K : KK) : LoadK (some (objF f z o)) 2 1 false K = K (.pv (.b o.dir)) [] := by
 simp only [LoadK, ldX, eq_iff_iff]
 have e : (objF f z o).getD 2 (.b false) = .b o.dir := by
  obtain ⟨i, b, l, n, s, v⟩ := o
  simp only [objF, vE, arrF]; rfl
 rw [e]
 exact ⟨fun h => h.2.2, fun h => ⟨by simp [objF_len], .inr trivial, h⟩⟩
theorem ldf_objName (f : Bool) (z : Nat) (o : Obj) (K : KK) : LoadK (some (objF f z o)) 5 1 false K = K (.pv (.s o.name)) [] := by
 simp only [LoadK, ldX, eq_iff_iff]
 have e : (objF f z o).getD 5 (.b false) = .s o.name := by
  obtain ⟨i, b, l, n, s, v⟩ := o
  simp only [objF, vE, arrF]; rfl
 rw [e]
 exact ⟨fun h => h.2.2, fun h => ⟨by simp [objF_len], .inr trivial, h⟩⟩
theorem ldf_objVers (f : Bool) (z : Nat) (o : Obj) (K : KK) : LoadK (some (objF f z o)) 14 1 false K = K (.pv (.sl f z (o.vers.map verE))) [] := by
 simp only [LoadK, ldX, eq_iff_iff]
 have e : (objF f z o).getD 14 (.b false) = .sl f z (o.vers.map verE) := by
  obtain ⟨i, b, l, n, s, v⟩ := o
  simp only [objF, vE, arrF]; rfl
 rw [e]
 exact ⟨fun h => h.2.2, fun h => ⟨by simp [objF_len], .inr trivial, h⟩⟩
theorem ldf_obj (f : Bool) (z : Nat) (o : Obj) (K : KK) : LoadK (some (objF f z o)) 0 15 true K = K (.vec 15 (objF f z o)) [] := by
 simp only [LoadK, ldX, eq_iff_iff]
 have e : ((objF f z o).drop 0).take 15 = objF f z o := List.take_of_length_le (by simp [objF_len])
 rw [e]
 exact ⟨fun h => h.2.2, fun h => ⟨by simp [objF_len], .inl trivial, h⟩⟩
theorem ld_objId (o : Obj) (K : KK) : LoadK (some (objE o)) 0 2 true K = K (.vec 2 [.i .i64 o.id.1, .i .u32 o.id.2]) [] := ldf_objId _ _ o K
theorem ld_objLast (o : Obj) (K : KK) : LoadK (some (objE o)) 3 2 true K = K (.vec 2 [.i .i64 o.last.1, .i .u32 o.last.2]) [] := ldf_objLast _ _ o K
theorem ld_objSeen (o : Obj) (K : KK) : LoadK (some (objE o)) 6 8 true K = K (.vec 8 (vE o.seen)) [] := ldf_objSeen _ _ o K
theorem ld_objDir (o : Obj) (K : KK) : LoadK (some (objE o)) 2 1 false K = K (.pv (.b o.dir)) [] := ldf_objDir _ _ o K
theorem ld_objName (o : Obj) (K : KK) : LoadK (some (objE o)) 5 1 false K = K (.pv (.s o.name)) [] := ldf_objName _ _ o K
theorem ld_objVers (o : Obj) (K : KK) : LoadK (some (objE o)) 14 1 false K = K (.pv (.sl false 11 (o.vers.map verE))) [] := ldf_objVers _ _ o K
theorem ld_obj (o : Obj) (K : KK) : LoadK (some (objE o)) 0 15 true K = K (.vec 15 (objE o)) [] := ldf_obj _ _ o K
theorem spo_last (o : Obj) (i : Idn) : splice (objE o) 3 ([.i .i64 i.1, .i .u32 i.2]) = objE { o with last := i } := by
 obtain ⟨i, b, l, n, s, v⟩ := o
 simp only [splice, objE, objF, vE, arrF]; rfl
theorem spo_name (o : Obj) (s : List UInt8) : splice (objE o) 5 ([.s s]) = objE { o with name := s } := by
 obtain ⟨i, b, l, n, s, v⟩ := o
 simp only [splice, objE, objF, vE, arrF]; rfl
theorem spo_seen (o : Obj) (v : Vc) : splice (objE o) 6 (vE v) = objE { o with seen := v } := by
 obtain ⟨i, b, l, n, s, v⟩ := o
 simp only [splice, objE, objF, vE, arrF]; rfl
theorem spo_vers (o : Obj) (f : Bool) (z : Nat) (l : List Ver) : splice (objE o) 14 ([.sl f z (l.map verE)]) = objF f z { o with vers := l } := by
 obtain ⟨i, b, l, n, s, v⟩ := o
 simp only [splice, objE, objF, vE, arrF]; rfl
def obN (o : Obj) : Ent := ⟨o.id, (0, 0), [], (0, 0), fun _ => 0⟩
def SortO (l : List Obj) : Prop := SortE (l.map obN)
def posO (l : List Obj) (i : Idn) : Nat := posE (l.map obN) i
def isO (l : List Obj) (i : Idn) : Bool := isE (l.map obN) i
structure St where
 known : Vc
 objs : List Obj
 ents : List Ent
 wards : Nat → Int
 ret : Nat → Bool
def segX (s : St) (x y : SV) : List SV := [.vec 8 (vE s.known), x, y, .vec 8 (iE s.wards), .vec 8 (wE s.ret)]
def segS (s : St) : List SV := segX s (.pv (.sl false 15 (s.objs.map objE))) (.pv (.sl false 15 (s.ents.map entE)))
def st0 : St := ⟨fun _ => 0, [], [], fun _ => 0, fun _ => false⟩
theorem seg_imp {s : St} {f g : Bool} {y z : Nat} {es fs : List (List PV)} (hy : es = [] ∨ y = 15) (hz : fs = [] ∨ z = 15) (he : PImpR es (s.objs.map objE)) (hf : PImpR fs (s.ents.map entE)) : Imp (.agg (segX s (.pv (.sl f y es)) (.pv (.sl g z fs)))) (.agg (segS s)) :=
 imp_aggS ⟨⟨Imp.refl _, rfl⟩, ⟨imp_pv (pimp_sl (by simp) hy he), rfl⟩, ⟨imp_pv (pimp_sl (by simp) hz hf), rfl⟩, ⟨Imp.refl _, rfl⟩, ⟨Imp.refl _, rfl⟩, trivial⟩
theorem seg0_imp : Imp (.agg [.vec 8 (List.replicate 8 (.i .u32 0)), .pv (.sl true 0 []), .pv (.sl true 0 []), .vec 8 (List.replicate 8 (.i .i64 0)), .vec 8 (List.replicate 8 (.b false))]) (.agg (segS st0)) :=
 seg_imp (s := st0) (.inl rfl) (.inl rfl) trivial trivial
theorem okOvlO {m n lo hi : Nat} {es fs : List (List PV)} {h} (hm : h m = some (.row 15 fs)) (hn : h n = some (.row 15 es)) (hne : m ≠ n) (hfs : fs ≠ []) (hes : es ≠ []) (hlt : lo < hi) : ExtOk Tryz.prog 102 [.os m, .ov n 15 lo hi] h (.pv (.b false)) := by
 intro F N ρ s a w hR hh vs hc
 simp only [ConcL] at hc
 obtain ⟨v, us, rfl, hv, u, us', rfl, hu, rfl⟩ := hc
 have hsm := (hh m (by simp [tops, tn])).trans hm
 have hsn := (hh n (by simp [tops, tn])).trans hn
 refine ⟨.bool false, ?_, conc_b⟩
 rw [run_callFunc_extern (fn := (Tryz.prog.funcs[102]?).getD default) (by kernel_rfl) (by kernel_rfl) (by kernel_rfl) (by kernel_rfl) (e := Extern.SlicesOverlaps.overlaps #[28, 28] #[4]) (by kernel_rfl)]
 rw [overlaps_apart (tS := 28) (e := 47) (by kernel_rfl) (by kernel_rfl) (by decide) hR hsm hsn hne hfs hes hlt hv hu]
 rfl
set_option maxHeartbeats 4000000 in
theorem okInsO_900_901 (es : List (List PV)) (cs : List PV) (i : Nat) (hi : i ≤ es.length) (hb : es.length ≤ 1000) (hes : ∀ c ∈ es, c.length = 15) (hcs : cs.length = 15) {h d} (h1 : h 900 = some (.row 15 es)) (h2 : h 901 = some (.row 15 [cs])) : FunOk Tryz.prog 76 [.os 900, .pv (.i .i64 i), .os 901] h d (.os d) [.del 900, .del 901, .new d (.row 15 (es.take i ++ cs :: es.drop i))] := by
 refine fun_own mixed fn76 (by simp) rfl fun F => ?_
 simp only [lentNames]
 by_cases he : i = es.length
 · subst he
   have e1 : es.take es.length ++ cs :: es.drop es.length = es ++ [cs] := by simp
   rw [e1]
   simp (disch := omega) only [ir76, h1, h2, go_sem]
 · have hne : es ≠ [] := by intro e; subst e; simp at hi; exact he (by simpa using hi)
   simp (disch := omega) only [ir76, h1, h2, go_sem]
   intro c hc
   by_cases hcap : c < es.length + 1
   · have hp : ((c : Int) < (es.length : Int) + ((1 : Nat) : Int)) = True := eq_true (by omega)
     have ek : ((es.length : Int) + ((1 : Nat) : Int) - (i : Int)).toNat = es.length + 1 - i := by omega
     (try simp only [bK1, bK2, bK3, bK4, bK5, bK6, bK7, bK8]); simp (disch := omega) only [hp, ek, go_sem]
     generalize hT : List.take i es ++ List.replicate (es.length + 1 - i) _ = T
     have hTl : T.length = es.length + 1 := by rw [← hT]; simp; omega
     have t1 : T.take i = es.take i := by
      rw [← hT, List.take_append_of_le_length (by simp; omega), List.take_take, Nat.min_self]
     have hi' : (es.take i).length = i := by simp; omega
     have m1 : min 1 (es.length + 1 - i) = 1 := by omega
     have m2 : [cs].take (es.length + 1 - i) = [cs] := List.take_of_length_le (by simp; omega)
     have hU : (es.take i ++ [cs] ++ T.drop (i + 1)).length = es.length + 1 := by simp [hTl]; omega
     have e1 : ((i : Int) + ((1 : Nat) : Int)).toNat = i + 1 := by omega
     have u1 : (es.take i ++ [cs] ++ T.drop (i + 1)).take (i + 1) = es.take i ++ [cs] := by
      rw [List.take_append_of_le_length (by simp; omega)]
      exact List.take_of_length_le (by simp; omega)
     have u2 : (es.take es.length).drop i = es.drop i := by rw [List.take_length]
     have u3 : min (es.drop i).length (es.length + 1 - (i + 1)) = es.length - i := by simp
     have u4 : (es.drop i).take (es.length + 1 - (i + 1)) = es.drop i := List.take_of_length_le (by simp)
     have u5 : (es.take i ++ [cs] ++ T.drop (i + 1)).drop (i + 1 + (es.length - i)) = [] := List.drop_of_length_le (by rw [hU]; omega)
     have u6 : es.take i ++ cs :: es.drop i = es.take i ++ [cs] ++ es.drop i := by simp
     simp only [hTl, t1, m1, m2, e1, List.length_singleton]
     simp only [hU, u1, u2, u3, u4, u5, u6, List.append_nil]
     exact ⟨by omega, by omega, trivial⟩
   · have hp : ((c : Int) < (es.length : Int) + ((1 : Nat) : Int)) = False := eq_false (by omega)
     (try simp only [bK1, bK2, bK3, bK4, bK5, bK6, bK7, bK8]); simp (disch := omega) only [hp, go_sem]
     intro g hg hgs
     have hg1 : g.length = 1 := by omega
     have e1 : ((i : Int) + ((1 : Nat) : Int)).toNat = i + 1 := by omega
     have hE : (es ++ g).length = es.length + 1 := by simp [hg1]
     refine ⟨by omega, ?_⟩
     rw [e1]
     refine call_ext (okOvlO (es := es ++ g) (fs := [cs]) rfl rfl (by decide) (by simp) (by simp [hne]) (by omega)) ?_
     have v1 : ((es ++ g).take (es ++ g).length).drop i = (es ++ g).drop i := by rw [List.take_length]
     have v2 : min ((es ++ g).drop i).length ((es ++ g).length - (i + 1)) = es.length - i := by simp [hg1]; omega
     have v3 : ((es ++ g).drop i).take ((es ++ g).length - (i + 1)) = es.drop i := by
      rw [hE, List.drop_append_of_le_length hi, show es.length + 1 - (i + 1) = (es.drop i).length from by simp]
      exact List.take_left
     have v4 : (es ++ g).drop (i + 1 + (es.length - i)) = [] := List.drop_of_length_le (by omega)
     have v5 : ((es ++ g).take (i + 1) ++ es.drop i).length = es.length + 1 := by simp [hg1]; omega
     have v6 : ((es ++ g).take (i + 1) ++ es.drop i).take i = es.take i := by
      rw [List.take_append_of_le_length (by simp; omega), List.take_take, Nat.min_eq_left (by omega), List.take_append_of_le_length hi]
     have v7 : ((es ++ g).take (i + 1) ++ es.drop i).drop (i + 1) = es.drop i := by
      rw [List.drop_append_of_le_length (by simp; omega), List.drop_of_length_le (by simp; omega), List.nil_append]
     have m1 : min 1 (es.length + 1 - i) = 1 := by omega
     have m2 : [cs].take (es.length + 1 - i) = [cs] := List.take_of_length_le (by simp; omega)
     have u6 : es.take i ++ cs :: es.drop i = es.take i ++ [cs] ++ es.drop i := by simp
     simp (disch := omega) only [e1, v1, v2, v3, v4, v5, v6, v7, m1, m2, u6, go_sem]
theorem okInsO {m n : Nat} (es : List (List PV)) (cs : List PV) (i : Nat) (hi : i ≤ es.length) (hb : es.length ≤ 1000) (hes : ∀ c ∈ es, c.length = 15) (hcs : cs.length = 15) (hmn : m ≠ n) (hm : m < 900) (hn : n < 900) {h d} (hd : d ≠ m ∧ d ≠ n ∧ d < 900) (h1 : h m = some (.row 15 es)) (h2 : h n = some (.row 15 [cs])) : FunOk Tryz.prog 76 [.os m, .pv (.i .i64 i), .os n] h d (.os d) [.del m, .del n, .new d (.row 15 (es.take i ++ cs :: es.drop i))] := by
 have hπ := sw2_inv (a := 900) (m := m) (b := 901) (n := n) (by omega) (by omega) (by omega) hmn
 have e1 : sw2 900 m 901 n 900 = m := by unfold sw2; simp
 have e2 : sw2 900 m 901 n 901 = n := by unfold sw2; repeat' split <;> (try omega)
 have e3 : sw2 900 m 901 n d = d := by unfold sw2; repeat' split <;> (try omega)
 have := (okInsO_900_901 es cs i hi hb hes hcs (h := fun k => (h (sw2 900 m 901 n k))) (d := d) (by rw [← h1, e1]) (by rw [← h2, e2])).rn (π := sw2 900 m 901 n) hπ (d' := d)
 simp only [SV.rnL, SV.rn, HU.rn, Blk.rn, List.map_cons, List.map_nil, e1, e2, e3] at this
 refine this.at fun k hk => ?_
 simp only [tops, tn, List.append_nil, List.nil_append, List.mem_append, List.mem_singleton] at hk
 simp only [hπ]
 rcases hk with rfl | rfl
 · rw [h1]; rfl
 · rw [h2]; rfl
theorem okAtOF (x : Obj) (b : Idn) {h d} : FunOk Tryz.prog 82 [.vec 15 (objE x), .vec 2 [.i .i64 b.1, .i .u32 b.2]] h d (.pv (.i .i64 (cmpI x.id b))) [] := by
 refine fun_pure mixed fn82 (by simp) rfl rfl fun F => ?_
 simp (disch := omega) only [ir82, ld_objId, go_sem]
 refine call_with (okLess _ _ _ _) ?_
 by_cases h1 : idLt x.id.1 x.id.2 b.1 b.2 = true
 · have e : cmpI x.id b = -1 := if_pos h1
   simp (disch := omega) only [h1, e, go_sem]
 · have h1' : idLt x.id.1 x.id.2 b.1 b.2 = false := by simpa using h1
   simp (disch := omega) only [h1', ld_objId, go_sem]
   refine call_with (okLess _ _ _ _) ?_
   by_cases h2 : idLt b.1 b.2 x.id.1 x.id.2 = true
   · have e : cmpI x.id b = 1 := by unfold cmpI; rw [if_neg h1, if_pos h2]
     simp (disch := omega) only [h2, e, go_sem]
   · have h2' : idLt b.1 b.2 x.id.1 x.id.2 = false := by simpa using h2
     have e : cmpI x.id b = 0 := by unfold cmpI; rw [if_neg h1, if_neg h2]
     simp (disch := omega) only [h2', e, go_sem]
theorem obN_get {l : List Obj} {j : Nat} {y : Ent} (h : (l.map obN)[j]? = some y) : ∃ o, l[j]? = some o ∧ y.id = o.id := by
 rw [List.getElem?_map] at h
 obtain ⟨o, h1, h2⟩ := Option.map_eq_some_iff.1 h
 exact ⟨o, h1, by rw [← h2]; rfl⟩
theorem get_obN {l : List Obj} {j : Nat} {o : Obj} (h : l[j]? = some o) : (l.map obN)[j]? = some (obN o) := by rw [List.getElem?_map, h]; rfl
theorem sortO_get {l : List Obj} (hs : SortO l) {j m : Nat} {x v : Obj} (hj : l[j]? = some x) (hm : l[m]? = some v) (h : j < m) : ilt x.id v.id = true := sort_get (l := l.map obN) hs (get_obN hj) (get_obN hm) h
theorem posO_eq {l : List Obj} {i : Idn} {k : Nat} (hk : k ≤ l.length) (h1 : ∀ j x, j < k → l[j]? = some x → ilt x.id i = true) (h2 : ∀ x, l[k]? = some x → ¬ ilt x.id i = true) : posO l i = k :=
 posE_eq (l := l.map obN) (by simpa using hk) (fun j x hj hx => by
  obtain ⟨o, h3, h4⟩ := obN_get hx
  rw [h4]; exact h1 j o hj h3) fun x hx => by
  obtain ⟨o, h3, h4⟩ := obN_get hx
  rw [h4]; exact h2 o h3
theorem posO_le (l : List Obj) (i : Idn) : posO l i ≤ l.length := by have := posE_le (l.map obN) i; simpa [posO] using this
theorem isO_pos {l : List Obj} (hs : SortO l) (i : Idn) : isO l i = match l[posO l i]? with | some x => decide (x.id = i) | none => false := by
 have h := look_pos (l := l.map obN) hs i
 unfold isO isE
 rw [h]
 show _ = match l[posO l i]? with | some x => decide (x.id = i) | none => false
 unfold posO
 cases hx : l[posE (l.map obN) i]? with
 | none => rw [List.getElem?_map, hx]; rfl
 | some x =>
   rw [List.getElem?_map, hx]
   show (if x.id = i then some (obN x) else none).isSome = decide (x.id = i)
   by_cases e : x.id = i <;> simp [e]
theorem isO_at {l : List Obj} (hs : SortO l) {i : Idn} (h : isO l i = true) : ∃ o, l[posO l i]? = some o ∧ o.id = i := by
 rw [isO_pos hs] at h
 cases hx : l[posO l i]? with
 | none => rw [hx] at h; cases h
 | some x => rw [hx] at h; exact ⟨x, rfl, by simpa using h⟩
def stBsfO (f : Bool) (l : List Obj) (i : Idn) (p : Nat × Nat) : FS := mk [(9, .pv (.i .i64 p.1)), (10, .pv (.i .i64 p.2)), (8, .pv (.i .i64 l.length)), (0, .pv (.sl f 15 (l.map objE))), (2, .fn (.func 82) []), (4, .p 4 0)] [(4, some (.var (.vec 2 [.i .i64 i.1, .i .u32 i.2])))]
set_option maxHeartbeats 1000000 in
theorem okBsfO {x : SV} {f : Bool} {l : List Obj} (i : Idn) {h d} (hx : lents h [x, .vec 2 [.i .i64 i.1, .i .u32 i.2], .fn (.func 82) []] = [.pv (.sl f 15 (l.map objE)), .vec 2 [.i .i64 i.1, .i .u32 i.2], .fn (.func 82) []]) (hl : lendable [x, .vec 2 [.i .i64 i.1, .i .u32 i.2], .fn (.func 82) []] = true) (hs : SortO l) (hn : l.length ≤ 1000) :
 FunOk Tryz.prog 81 [x, .vec 2 [.i .i64 i.1, .i .u32 i.2], .fn (.func 82) []] h d (.tup [.pv (.i .i64 (posO l i)), .pv (.b (isO l i))]) [] := by
 refine fun_scalar mixed fn81 (by simp) hl rfl fun F => ?_
 rw [hx]
 simp (disch := omega) only [ir81, List.length_map, go_sem]
 refine loop_ok mixed (stBsfO f l i) (fun p => p.1 ≤ p.2 ∧ p.2 ≤ l.length ∧ (∀ j x, j < p.1 → l[j]? = some x → ilt x.id i = true) ∧ ∀ j x, p.2 ≤ j → l[j]? = some x → ¬ ilt x.id i = true) (fun p => p.2 - p.1) (0, l.length) ⟨by simp, by simp, by simp, fun j x hj hx => by simp only at hj; rw [List.getElem?_eq_none hj] at hx; cases hx⟩ (weak_mk ?_ ?_) fun p hp => ?_
 · (try simp only [bK1, bK2, bK3, bK4, bK5, bK6, bK7, bK8]); simp (disch := omega) only [go_sem]
 · simp (disch := omega) only [go_sem]
 obtain ⟨a, b⟩ := p
 obtain ⟨p1, p2, p3, p4⟩ := hp
 simp only at p1 p2 p3 p4
 by_cases hlt : a < b
 · have hm : (a + b) / 2 < l.length := by omega
   have hx : l[(a + b) / 2]? = some l[(a + b) / 2] := List.getElem?_eq_getElem hm
   have he : (l.map objE)[(a + b) / 2]? = some (objE l[(a + b) / 2]) := by rw [List.getElem?_map, hx]; rfl
   have e1 : ((a : Int) + (b : Int)).fdiv (2 ^ min (Int.toNat 1) 64) = (((a + b) / 2 : Nat) : Int) := by
    rw [show (2 : Int) ^ min (Int.toNat 1) 64 = 2 from rfl, Int.fdiv_eq_ediv_of_nonneg _ (by omega)]; omega
   have hm1 : a ≤ (a + b) / 2 := by omega
   have hm2 : (a + b) / 2 < b := by omega
   generalize l[(a + b) / 2] = v at *
   generalize (a + b) / 2 = m at *
   simp (disch := omega) only [stBsfO, List.length_map, e1, he, ld_obj, go_sem]
   refine call_with (okAtOF v i) ?_
   by_cases hc : ilt v.id i = true
   · have e2 : (cmpI v.id i < 0) = True := by rw [cmpI_lt]; exact eq_true hc
     simp (disch := omega) only [e2, go_sem]
     refine loop_next (x := (a, b)) (m + 1, b) _ _ rfl ⟨by show m + 1 ≤ b; omega, p2, fun j x hj hx' => ?_, p4⟩ (by show b - (m + 1) < b - a; omega) ?_ ?_
     · by_cases e : j = m
       · subst e; rw [hx] at hx'; cases hx'; exact hc
       · exact ilt_trans (sortO_get hs hx' hx (by simp only at hj; omega)) hc
     · (try simp only [bK1, bK2, bK3, bK4, bK5, bK6, bK7, bK8]); simp (disch := omega) only [go_sem]
     · simp (disch := omega) only [go_sem]
   · have e2 : (cmpI v.id i < 0) = False := by rw [cmpI_lt]; exact eq_false hc
     simp (disch := omega) only [e2, go_sem]
     refine loop_next (x := (a, b)) (a, m) _ _ rfl ⟨by show a ≤ m; omega, by show m ≤ _; omega, p3, fun j x hj hx' => ?_⟩ (by show m - a < b - a; omega) ?_ ?_
     · by_cases e : j = m
       · subst e; rw [hx] at hx'; cases hx'; exact hc
       · exact fun q => hc (ilt_trans (sortO_get hs hx hx' (by simp only at hj; omega)) q)
     · (try simp only [bK1, bK2, bK3, bK4, bK5, bK6, bK7, bK8]); simp (disch := omega) only [go_sem]
     · simp (disch := omega) only [go_sem]
 · obtain rfl : a = b := by omega
   have hpos : posO l i = a := posO_eq p2 p3 fun x hx' => p4 a x (Nat.le_refl a) hx'
   have hk := isO_pos hs i
   rw [hpos] at hk
   by_cases hal : a < l.length
   · have hx' : l[a]? = some l[a] := List.getElem?_eq_getElem hal
     have he : (l.map objE)[a]? = some (objE l[a]) := by rw [List.getElem?_map, hx']; rfl
     rw [hx'] at hk
     simp only at hk
     generalize l[a] = v at *
     simp (disch := omega) only [stBsfO, hal, he, ld_obj, List.length_map, go_sem]
     refine call_with (okAtOF v i) ?_
     by_cases hv : v.id = i
     · have e2 : (cmpI v.id i = 0) = True := by rw [cmpI_eq]; exact eq_true hv
       have e3 : isO l i = true := by rw [hk]; simp [hv]
       simp (disch := omega) only [e2, e3, hpos, go_sem]
     · have e2 : (cmpI v.id i = 0) = False := by rw [cmpI_eq]; exact eq_false hv
       have e3 : isO l i = false := by rw [hk]; simp [hv]
       simp (disch := omega) only [e2, e3, hpos, go_sem]
   · rw [List.getElem?_eq_none (by omega)] at hk
     simp (disch := omega) only [stBsfO, hal, hpos, hk, go_sem]
theorem okAtO {x : SV} {f : Bool} {l : List Obj} (i : Idn) {h d} (hx : lents h [x, .vec 2 [.i .i64 i.1, .i .u32 i.2]] = [.pv (.sl f 15 (l.map objE)), .vec 2 [.i .i64 i.1, .i .u32 i.2]]) (hl : lendable [x, .vec 2 [.i .i64 i.1, .i .u32 i.2]] = true) (hs : SortO l) (hn : l.length ≤ 1000) :
 FunOk Tryz.prog 40 [x, .vec 2 [.i .i64 i.1, .i .u32 i.2]] h d (.tup [.pv (.i .i64 (posO l i)), .pv (.b (isO l i))]) [] := by
 refine fun_scalar mixed fn40 (by simp) hl rfl fun F => ?_
 rw [hx]
 simp (disch := omega) only [ir40, go_sem]
 refine call_with (okBsfO (l := l) i rfl rfl hs hn) ?_
 simp (disch := omega) only [go_sem]
def dirW (l : List Obj) (i : Idn) : Int := if i = (0, 0) then 0 else match l[posO l i]? with
 | some o => if o.id = i then (if o.dir = true then 0 else 22) else 2
 | none => 2
theorem dirW_n {l : List Obj} (hs : SortO l) {i : Idn} (h : i ≠ (0, 0)) (k : isO l i = false) : dirW l i = 2 := by
 unfold dirW; rw [if_neg h]
 rw [isO_pos hs] at k
 cases hx : l[posO l i]? with
 | none => rfl
 | some x => rw [hx] at k; simp only at k ⊢; rw [if_neg (by simpa using k)]
theorem dirW_s {l : List Obj} {i : Idn} {o : Obj} (h : i ≠ (0, 0)) (k : l[posO l i]? = some o) (ho : o.id = i) : dirW l i = if o.dir = true then 0 else 22 := by
 unfold dirW; rw [if_neg h, k]; simp only; rw [if_pos ho]
theorem zero_idn {i : Idn} (h : i = (0, 0)) : i.1 = 0 ∧ i.2 = 0 := by subst h; exact ⟨rfl, rfl⟩
theorem okInDirD {s : St} (i : Idn) {h d} (hs : SortO s.objs) (hn : s.objs.length ≤ 1000) : FunOk Tryz.prog 75 [.agg (segS s), .vec 2 [.i .i64 i.1, .i .u32 i.2]] h d (.pv (.i .i64 (dirW s.objs i))) [] := by
 refine fun_pure mixed fn75 (by simp) rfl rfl fun F => ?_
 by_cases h0 : i = (0, 0)
 · have e : dirW s.objs i = 0 := if_pos h0
   have hz : zeroB i.1 i.2 = true := decide_eq_true (zero_idn h0)
   simp (disch := omega) only [ir75, segS, segX, fits_id, fits_id0, peq_zero, hz, e, go_sem]
 · have hz : zeroB i.1 i.2 = false := decide_eq_false fun e => h0 (Prod.ext e.1 e.2)
   simp (disch := omega) only [ir75, segS, segX, fits_id, fits_id0, peq_zero, hz, go_sem]
   refine call_with (okAtO (l := s.objs) i rfl rfl hs hn) ?_
   by_cases hi : isO s.objs i = true
   · obtain ⟨o, h1, h2⟩ := isO_at hs hi
     have e := dirW_s h0 h1 h2
     have hlt := (List.getElem?_eq_some_iff.1 h1).1
     have he : (s.objs.map objE)[posO s.objs i]? = some (objE o) := by rw [List.getElem?_map, h1]; rfl
     by_cases hd : o.dir = true
     · rw [if_pos hd] at e
       simp (disch := omega) only [hi, List.length_map, he, ld_objDir, hd, e, go_sem]
     · rw [if_neg hd] at e
       have hd' : o.dir = false := by simpa using hd
       simp (disch := omega) only [hi, List.length_map, he, ld_objDir, hd', e, go_sem]
   · have hi' : isO s.objs i = false := by simpa using hi
     have e := dirW_n hs h0 hi'
     simp (disch := omega) only [hi', e, go_sem]
theorem fun_rowX {P : Program} (hm : P.follows .mixedOrders = true) {f N' : Nat} {rs : List Rv} {c : C} (hf : fnOf P f = some (N', rs, c)) {args : List SV} {h : Nat → Option Blk} {d : Nat} {sz : Nat} {es : List (List PV)} {X : Nat → SV} (hlen : args.length ≤ N')
 (hargs : SV.closedL args = true) (hX : ∀ (V V' : View) (ρ ρ' : Nat → Value) (n d : Nat) (v : Value), View.le V V' → ρ' d = ρ n → Conc V ρ (X n) v → Conc V' ρ' (X d) v)
 (hrun : ∀ F, sx (env P F N') c (RetQ rs fun y g => ∃ n, y = X n ∧ g n = some (.row sz es)) (mk (argT 0 args) [])) :
 FunOk P f args h d (X d) [.new d (.row sz es)] := by
 obtain ⟨h1, h2, h3⟩ := lentNames_nil hargs
 refine ⟨entered_of hf, fun F N ρ s a w hR hh vs hc => ?_⟩
 refine Calls.mono (call_after hm hf (h := h) hlen h2 retS_w (by rw [h3]; exact hrun) hR hh hc) fun e w' he => ?_
 obtain ⟨v, rfl, hg, N'', ρ', s', a', y, hR', hy, n, rfl, hn⟩ := he
 rw [h1, without_nil] at hR' hy
 obtain ⟨base, cap, g1, g2, g3, g4, g5⟩ := hR'.own n _ hn
 have hown : ∀ b, idOf (ρ' n) = some b → w.heap.size ≤ b ∧ b < w'.heap.size := fun b hb => by
  have ho : owned ρ' s'.h b := ⟨n, _, hn, hb⟩
  exact ⟨(hR'.may b ho).resolve_right id, hR'.lt ho⟩
 have hnew := hR.adopt hg d (.row sz es) (ρ' n) hown fun _ => by
  refine ⟨base, cap, by rw [upd_self]; exact g1, g2, g3, g4, fun hcap => ?_⟩
  obtain ⟨b, vs', ty, fr, k1, k2, k3, k4, k5, k6⟩ := g5 hcap
  refine ⟨b, vs', ty, fr, k1, k2, k3, k4, k5, fun i c hi => (k6 i c hi).mono (viewOf_le fun b' c' ho hc' => ⟨fun hb' => ?_, hc'⟩)⟩
  rcases hb' with ⟨m, z, hm1, hm2⟩ | hb'
  · by_cases hmd : m = d
    · subst hmd
      rw [upd_self] at hm2
      exact ho (.inl ⟨n, _, hn, hm2⟩)
    · rw [upd_ne hmd] at hm2
      simp only [FS.hup, FS.seth, FS.kill, hmd, if_false] at hm1
      obtain ⟨z', hz', _⟩ := Option.map_eq_some_iff.1 hm1
      exact ho (.inr (.inl ⟨m, z', hz', hm2⟩))
  · exact ho (.inr (.inr hb'))
 refine ⟨v, _, rfl, hnew.1, hX _ _ _ _ _ _ _ (viewOf_le fun b' c' ho hc' => ⟨fun hb' => ?_, hc'⟩) upd_self hy⟩
 rcases hb' with ⟨m, z, hm1, hm2⟩ | hb'
 · by_cases hmd : m = d
   · subst hmd
     rw [upd_self] at hm2
     exact ho (.inl ⟨n, _, hn, hm2⟩)
   · rw [upd_ne hmd] at hm2
     simp only [FS.hup, FS.seth, FS.kill, hmd, if_false] at hm1
     obtain ⟨z', hz', _⟩ := Option.map_eq_some_iff.1 hm1
     exact ho (.inr (.inl ⟨m, z', hz', hm2⟩))
 · exact ho (.inr (.inr hb'))
theorem okCloneED {f : Bool} {z : Nat} {es : List (List PV)} {h d} (hz : es = [] ∨ z = 15) (hb : es.length ≤ 1000) : FunOk Tryz.prog 42 [.pv (.sl f z es)] h d (.pv (.sl false 15 es)) [] := by
 refine fun_rowD mixed fn42 (by simp) rfl fun F => ?_
 simp (disch := omega) only [ir42, go_sem]
 intro b hb'
 cases b
 · simp (disch := omega) only [go_sem]
 · have he : es = [] := by
    cases es with
    | nil => rfl
    | cons c l => exact absurd (hb' (by simp)) (by simp)
   subst he
   (try simp only [bK1, bK2, bK3, bK4, bK5, bK6, bK7, bK8]); simp (disch := omega) only [go_sem]
   decide
theorem okCloneVD {f : Bool} {z : Nat} {es : List (List PV)} {h d} (hz : es = [] ∨ z = 11) (hb : es.length ≤ 1000) : FunOk Tryz.prog 41 [.pv (.sl f z es)] h d (.pv (.sl false 11 es)) [] := by
 refine fun_rowD mixed fn41 (by simp) rfl fun F => ?_
 simp (disch := omega) only [ir41, go_sem]
 intro b hb'
 cases b
 · simp (disch := omega) only [go_sem]
 · have he : es = [] := by
    cases es with
    | nil => rfl
    | cons c l => exact absurd (hb' (by simp)) (by simp)
   subst he
   (try simp only [bK1, bK2, bK3, bK4, bK5, bK6, bK7, bK8]); simp (disch := omega) only [go_sem]
   decide
theorem conc_swapos {V V' : View} {ρ ρ' : Nat → Value} {n d : Nat} {a b : List SV} {v : Value} (hV : V.le V') (he : ρ' d = ρ n) (ha : SV.closedL a = true) (hb : SV.closedL b = true) (h : Conc V ρ (.agg (a ++ .os n :: b)) v) : Conc V' ρ' (.agg (a ++ .os d :: b)) v := by
 simp only [Conc] at h ⊢
 obtain ⟨vs, rfl, hc⟩ := h
 obtain ⟨va, vb, rfl, h1, h2⟩ := cells_split hc
 simp only [Cells] at h2
 obtain ⟨u, ub, rfl, h3, h4, h5, h6⟩ := h2
 refine ⟨_, rfl, cells_join (closed_cells hV ha h1) ?_⟩
 simp only [Cells]
 refine ⟨u, ub, rfl, ?_, h4, h5, closed_cells hV hb h6⟩
 simp only [Conc] at h3 ⊢
 rw [he]; exact h3
def cpS (k : Nat) : SV := if k = 0 then .pv (.sl true 0 []) else .os 40
def cpK (l : List Obj) (k : Nat) : Option Blk := if k = 0 then none else some (.row 15 ((l.take k).map objE))
theorem cpS_0 : cpS 0 = .pv (.sl true 0 []) := rfl
theorem cpS_s {k : Nat} (h : k ≠ 0) : cpS k = .os 40 := if_neg h
theorem cpK_0 (l : List Obj) : cpK l 0 = none := rfl
theorem cpK_s {l : List Obj} {k : Nat} (h : k ≠ 0) : cpK l k = some (.row 15 ((l.take k).map objE)) := if_neg h
def zeroS : SV := .agg [.vec 8 (List.replicate 8 (.i .u32 0)), .pv (.sl true 0 []), .pv (.sl true 0 []), .vec 8 (List.replicate 8 (.i .i64 0)), .vec 8 (List.replicate 8 (.b false))]
def entS (s : St) : SV := .pv (.sl false 15 (s.ents.map entE))
def stCp (s : St) (k : Nat) : FS := mk [(15, .pv (.i .i64 k)), (14, .pv (.i .i64 s.objs.length)), (13, .pv (.sl false 15 (s.objs.map objE))), (3, .p 3 0), (2, .p 2 0)] [(3, some (.var (.agg (segX s (cpS k) (entS s))))), (2, some (.var zeroS)), (40, cpK s.objs k)]
theorem take_snoc {α : Type} {l : List α} {k : Nat} {y : α} (h : l[k]? = some y) : l.take (k + 1) = l.take k ++ [y] := by
 rw [List.take_add_one, h]; rfl
theorem objE_lens (l : List Obj) : ∀ c ∈ l.map objE, c.length = 15 := fun c hc => by
 obtain ⟨o, _, rfl⟩ := List.mem_map.1 hc
 exact objE_len o
set_option maxHeartbeats 4000000 in
theorem cloneWalk {s : St} (hn : s.objs.length ≤ 1000) (hv : ∀ o ∈ s.objs, o.vers.length ≤ 1000) (he : s.ents.length ≤ 1000) {F : Fr} {R : SV → (Nat → Option Blk) → Prop}
 (h1 : s.objs = [] → ∀ h, R (.agg (segX s (.pv (.sl true 0 [])) (entS s))) h) (h2 : s.objs ≠ [] → ∀ h, h 40 = some (.row 15 (s.objs.map objE)) → R (.agg (segX s (.os 40) (entS s))) h) :
 sx (env Tryz.prog F 31) ir17 (RetQ [.c 2 26 true] R) (mk (argT 0 [.agg (segS s)]) []) := by
 simp (disch := omega) only [ir17, segS, segX, go_sem]
 refine call_with (okCloneED (es := s.ents.map entE) (.inr rfl) (by simpa using he)) ?_
 simp (disch := omega) only [List.length_map, go_sem]
 refine loop_ok mixed (stCp s) (fun k => k ≤ s.objs.length) (fun k => s.objs.length - k) 0 (by simp) (weak_mk ?_ ?_) fun k hk => ?_
 · simp (disch := omega) only [go_sem]
 · simp (disch := omega) only [cpS_0, cpK_0, segX, entS, zeroS, go_sem]
 by_cases hlt : k < s.objs.length
 · have hx : s.objs[k]? = some s.objs[k] := List.getElem?_eq_getElem hlt
   have hel : (s.objs.map objE)[k]? = some (objE s.objs[k]) := by rw [List.getElem?_map, hx]; rfl
   have ht := take_snoc hx
   have hvk := hv _ (List.getElem_mem hlt)
   generalize s.objs[k] = o at *
   have hsp : splice (objE o) 14 [.sl false 11 (o.vers.map verE)] = objE o := spo_vers o false 11 o.vers
   have hol := objE_len o
   have htm : (s.objs.take (k + 1)).map objE = (s.objs.take k).map objE ++ [objE o] := by rw [ht]; simp
   have hkl : ((s.objs.take k).map objE).length = k := by simp; omega
   simp (disch := omega) only [stCp, segX, List.length_map, hel, ld_obj, go_sem]
   simp (disch := omega) only [ld_objVers, go_sem]
   refine call_with (okCloneVD (es := o.vers.map verE) (.inr rfl) (by simpa using hvk)) ?_
   by_cases h0 : k = 0
   · subst h0
     simp (disch := omega) only [hsp, cpS_0, cpK_0, ld_obj, hol, segX, entS, zeroS, go_sem]
     have hS := cpS_s (k := 1) (by omega)
     have hK := cpK_s (l := s.objs) (k := 1) (by omega)
     refine ⟨fun _ => trivial, (1 : Nat), by omega, by show _ - 1 < _ - 0; omega, wk_ren 27 40 (by decide) rfl (weak_mk ?_ ?_)⟩
     · simp (disch := omega) only [go_sem]
     · simp (disch := omega) only [hS, hK, htm, segX, entS, zeroS, go_sem]
       rfl
   · have hS := cpS_s h0
     have hK := cpK_s (l := s.objs) h0
     simp (disch := omega) only [hsp, hS, hK, ld_obj, hol, segX, entS, zeroS, hkl, go_sem]
     have hS' := cpS_s (k := k + 1) (by omega)
     have hK' := cpK_s (l := s.objs) (k := k + 1) (by omega)
     refine ⟨k + 1, by omega, by omega, wk_ren 27 40 (by decide) rfl (weak_mk ?_ ?_)⟩
     · simp (disch := omega) only [go_sem]
     · simp (disch := omega) only [hS', hK', htm, segX, entS, zeroS, go_sem]
 · obtain rfl : k = s.objs.length := by omega
   by_cases h0 : s.objs = []
   · have := h1 h0
     have e : s.objs.length = 0 := by rw [h0]; rfl
     simp (disch := omega) only [stCp, segX, e, cpS_0, cpK_0, entS, zeroS, go_sem]
     exact this _
   · have e : s.objs.length ≠ 0 := fun e => h0 (List.eq_nil_of_length_eq_zero e)
     have hS := cpS_s e
     have hK := cpK_s (l := s.objs) e
     simp (disch := omega) only [stCp, segX, hS, hK, entS, zeroS, go_sem]
     exact h2 h0 _ (by simp [mk, lk])
theorem fun_rowXD {P : Program} (hm : P.follows .mixedOrders = true) {f N' : Nat} {rs : List Rv} {c : C} (hf : fnOf P f = some (N', rs, c)) {args : List SV} {h : Nat → Option Blk} {d : Nat} {sz : Nat} {es : List (List PV)} {l r : List SV} (hlen : args.length ≤ N')
 (hargs : SV.closedL args = true) (hl : SV.closedL l = true) (hr : SV.closedL r = true) (hrun : ∀ F, sx (env P F N') c (RetQ rs fun y g => (∃ n, y = .agg (l ++ .os n :: r) ∧ g n = some (.row sz es)) ∨ ∃ z, y = .agg (l ++ .pv (.sl true z []) :: r) ∧ es = []) (mk (argT 0 args) [])) :
 FunOk P f args h d (.agg (l ++ .pv (.sl false sz es) :: r)) [] := by
 obtain ⟨h1, h2, h3⟩ := lentNames_nil hargs
 refine ⟨entered_of hf, fun F N ρ s a w hR hh vs hc => ?_⟩
 refine Calls.mono (call_after hm hf (h := h) hlen h2 retS_w (by rw [h3]; exact hrun) hR hh hc) fun e w' he => ?_
 obtain ⟨v, rfl, hg, N'', ρ', s', a', y, hR', hy, hyy⟩ := he
 rw [h1, without_nil] at hR' hy
 refine ⟨v, ρ, rfl, hR.grew hg, ?_⟩
 have key : ∀ (x : SV), x.width = 1 → y = .agg (l ++ x :: r) → (∀ u, Conc (vw ⟨w, fun _ => False, F.out ρ s.h, fun _ => undef, []⟩ w' ρ' s') ρ' x u → PConc (vw F w' ρ s) (.sl false sz es) u) → Conc (vw F w' ρ (s.hup [])) ρ (.agg (l ++ .pv (.sl false sz es) :: r)) v := fun x hw e k => by
  subst e
  simp only [Conc] at hy ⊢
  obtain ⟨vs, rfl, hc⟩ := hy
  obtain ⟨va, vb, rfl, g1, g2⟩ := cells_split hc
  simp only [Cells] at g2
  obtain ⟨u, ub, rfl, g3, g4, g5, g6⟩ := g2
  refine ⟨_, rfl, cells_join (closed_cells (after_view hR') hl g1) ?_⟩
  simp only [Cells]
  exact ⟨u, ub, rfl, by simp only [Conc]; exact k u g3, g4.trans hw, g5, closed_cells (after_view hR') hr g6⟩
 rcases hyy with ⟨n, e, hn⟩ | ⟨z, e, rfl⟩
 · refine key _ rfl e fun u hu => ?_
   simp only [Conc] at hu
   rw [hu.1]; exact row_back hR' hn
 · refine key _ rfl e fun u hu => ?_
   simp only [Conc] at hu
   exact (pimp_sl (by simp) (.inl rfl) (.refl [])) _ _ (hu.mono (after_view hR'))
structure Fine (s : St) : Prop where
 on : s.objs.length ≤ 500
 ov : ∀ o ∈ s.objs, o.vers.length ≤ 500
 en : s.ents.length ≤ 500
theorem okCloneS {s : St} (hs : Fine s) {h d} : FunOk Tryz.prog 17 [.agg (segS s)] h d (.agg (segX s (.os d) (entS s))) [.new d (.row 15 (s.objs.map objE))] := by
 have a1 : s.objs.length ≤ 1000 := Nat.le_trans hs.on (by omega)
 have a2 : ∀ o ∈ s.objs, o.vers.length ≤ 1000 := fun o ho => Nat.le_trans (hs.ov o ho) (by omega)
 have a3 : s.ents.length ≤ 1000 := Nat.le_trans hs.en (by omega)
 by_cases h0 : s.objs = []
 · rw [h0]
   refine FunOk.nilos (a := [.vec 8 (vE s.known)]) (b := [entS s, .vec 8 (iE s.wards), .vec 8 (wE s.ret)]) (z := 0) (sz := 15) ?_ rfl rfl (by omega)
   refine fun_pure mixed fn17 (by simp) rfl rfl fun F => ?_
   exact cloneWalk a1 a2 a3 (fun _ _ => rfl) fun e => absurd h0 e
 · refine fun_rowX (X := fun n => .agg (segX s (.os n) (entS s))) mixed fn17 (by simp) rfl (fun V V' ρ ρ' n d v hV he hc => conc_swapos (a := [.vec 8 (vE s.known)]) (b := [entS s, .vec 8 (iE s.wards), .vec 8 (wE s.ret)]) hV he rfl rfl hc) fun F => ?_
   exact cloneWalk a1 a2 a3 (fun e => absurd e h0) fun _ h hh => ⟨40, rfl, hh⟩
theorem okCloneSD {s : St} (hs : Fine s) {h d} : FunOk Tryz.prog 17 [.agg (segS s)] h d (.agg (segS s)) [] := by
 have a1 : s.objs.length ≤ 1000 := Nat.le_trans hs.on (by omega)
 have a2 : ∀ o ∈ s.objs, o.vers.length ≤ 1000 := fun o ho => Nat.le_trans (hs.ov o ho) (by omega)
 have a3 : s.ents.length ≤ 1000 := Nat.le_trans hs.en (by omega)
 refine fun_rowXD (l := [.vec 8 (vE s.known)]) (r := [entS s, .vec 8 (iE s.wards), .vec 8 (wE s.ret)]) mixed fn17 (by simp) rfl rfl rfl fun F => ?_
 exact cloneWalk a1 a2 a3 (fun e h => .inr ⟨0, rfl, by rw [e]; rfl⟩) fun _ h hh => .inl ⟨40, rfl, hh⟩
def SegsC : List SV → List PV → Prop
 | [], cs => cs = []
 | .pv x :: l, cs => ∃ r, cs = x :: r ∧ SegsC l r
 | .vec n c :: l, cs => c.length = n ∧ ∃ r, cs = c ++ r ∧ SegsC l r
 | _ :: _, _ => False
theorem cells_seg {V : View} {ρ : Nat → Value} : ∀ {l : List SV} {cs : List PV} {vs : List Value}, SegsC l cs → PCells V cs vs → Cells V ρ l vs
 | [], cs, vs, h, hp => by
   have h : cs = [] := h
   subst h
   simp only [Cells]
   exact List.eq_nil_of_length_eq_zero hp.1.symm
 | .pv x :: l, cs, vs, h, hp => by
   obtain ⟨r, rfl, h⟩ := h
   simp only [Cells]
   obtain ⟨v, hv, hx⟩ := hp.2 0 x rfl
   cases vs with
   | nil => cases hv
   | cons u us =>
     have : u = v := by simpa using hv
     subst this
     have hf : flatV u = [u] := by have := hx.one; cases u <;> simp_all [flatV, oneCell]
     refine ⟨u, us, by rw [hf]; rfl, by simp only [Conc]; exact hx, by rw [hf]; rfl, fun c hc => ?_, cells_seg h ⟨by simpa using hp.1, fun j y hy => by simpa using hp.2 (j + 1) y (by simpa using hy)⟩⟩
     rw [hf] at hc
     rw [List.mem_singleton.1 hc]
     exact hx.one
 | .vec n c :: l, cs, vs, h, hp => by
   obtain ⟨hn, r, rfl, h⟩ := h
   simp only [Cells]
   have hl : c.length + r.length = vs.length := by simpa using hp.1
   have hA : PCells V c (vs.take n) := ⟨by simp; omega, fun j y hy => by
    have hj := (List.getElem?_eq_some_iff.1 hy).1
    obtain ⟨v, h1, h2⟩ := hp.2 j y (by rw [List.getElem?_append_left hj]; exact hy)
    exact ⟨v, by rw [List.getElem?_take_of_lt (by omega)]; exact h1, h2⟩⟩
   refine ⟨.agg ⟨vs.take n⟩, vs.drop n, (List.take_append_drop n vs).symm, by simp only [Conc]; exact ⟨_, rfl, by simp; omega, hA⟩, by simp [flatV, SV.width]; omega, fun x hx => hA.one x hx, cells_seg h ⟨by simp; omega, fun j y hy => by
    obtain ⟨v, h1, h2⟩ := hp.2 (n + j) y (by rw [List.getElem?_append_right (by omega)]; simpa [hn] using hy)
    exact ⟨v, by rw [List.getElem?_drop]; exact h1, h2⟩⟩⟩
 | .agg _ :: _, _, _, h, _ => h.elim
 | .tup _ :: _, _, _, h, _ => h.elim
 | .p _ _ :: _, _, _, h, _ => h.elim
 | .ps _ _ :: _, _, _, h, _ => h.elim
 | .pr _ _ _ _ :: _, _, _, h, _ => h.elim
 | .pi _ _ _ _ :: _, _, _, h, _ => h.elim
 | .os _ :: _, _, _, h, _ => h.elim
 | .ov _ _ _ _ :: _, _, _, h, _ => h.elim
 | .fn _ _ :: _, _, _, h, _ => h.elim
 | .dead :: _, _, _, h, _ => h.elim
theorem imp_seg {l : List SV} {cs : List PV} {n : Nat} (h : SegsC l cs) : Imp (.vec n cs) (.agg l) := by
 intro V ρ v hv
 simp only [Conc] at hv ⊢
 obtain ⟨vs, rfl, _, hp⟩ := hv
 exact ⟨vs, rfl, cells_seg h hp⟩
def stLeq (a b : Vc) (k : Nat) : FS := mk [(8, .pv (.i .i64 k)), (7, .vec 8 (vE a)), (4, .pv (.b false)), (3, .p 3 0)] [(3, some (.var (.vec 8 (vE b))))]
theorem okLeq (a b : Vc) {h d} : FunOk Tryz.prog 35 [.vec 8 (vE a), .vec 8 (vE b)] h d (.pv (.b (decide (vLe a b)))) [] := by
 refine fun_pure mixed fn35 (by simp) rfl rfl fun F => ?_
 simp (disch := omega) only [ir35, go_sem]
 refine loop_ok mixed (stLeq a b) (fun k => k ≤ 8 ∧ ∀ i, i < k → a i ≤ b i) (fun k => 8 - k) 0 (by simp) (weak_mk ?_ ?_) fun k hk => ?_
 · simp (disch := omega) only [go_sem]
 · simp (disch := omega) only [go_sem]
 obtain ⟨hk, hle⟩ := hk
 by_cases hlt : k < 8
 · by_cases hc : a k ≤ b k
   · simp (disch := omega) only [stLeq, go_sem]
     refine loop_next (k + 1) _ _ rfl ⟨by omega, fun i hi => ?_⟩ (by omega) ?_ ?_
     · by_cases e : i = k
       · subst e; exact hc
       · exact hle i (by omega)
     · simp (disch := omega) only [go_sem]
     · simp (disch := omega) only [go_sem]
   · have hn : ¬ vLe a b := fun h => hc (h k hlt)
     simp (disch := omega) only [stLeq, hn, go_sem]
 · have hn : vLe a b := fun i hi => hle i (by omega)
   simp (disch := omega) only [stLeq, hn, go_sem]
theorem slI_imp (g : SlI) (h : g.ok) : Imp (.pv g.pv) (.pv (.sl g.f 2 (g.l.map idE))) := imp_pv (pimp_sl id (h.imp (fun e => by rw [e]; rfl) id) (.refl _))
def verS (r : Int) (q : Nat) (s : List UInt8) : Ver := ⟨r, q, s, fun _ => 0⟩
theorem ver_imp (r : Int) (q : Nat) (s : List UInt8) : Imp (.agg [.vec 2 [.i .i64 r, .i .u32 q], .pv (.s s), .vec 8 (vE fun _ => 0)]) (.vec 11 (verE (verS r q s))) := imp_agg (by rfl) (verE_len _)
theorem okAddVD {l : List Ver} {g : SlI} {r : Int} {q : Nat} {s : List UInt8} {h d} (hg : g.ok) (hs : SortedV l) (hn : l.length ≤ 900) (hbn : g.l.length ≤ 900) (hm : ¬ missing l g.l) (ho : findV l r q = none) :
 FunOk Tryz.prog 80 [.pv (.sl false 11 (l.map verE)), .pv g.pv, .agg [.vec 2 [.i .i64 r, .i .u32 q], .pv (.s s), .vec 8 (vE fun _ => 0)]] h d (.tup [.pv (.sl false 11 ((addLV l g.l (verS r q s)).map verE)), .pv (.i .i64 0)]) [] := by
 refine FunOk.imp (args' := [.pv (.sl false 11 (l.map verE)), .pv (.sl g.f 2 (g.l.map idE)), .vec 11 (verE (verS r q s))]) ?_ ⟨Imp.refl _, slI_imp g hg, ver_imp r q s, trivial⟩ (by simp [tops, tn])
 refine fun_row2D mixed fn80 (by simp) rfl rfl fun F => ?_
 exact addWalk hs hn hbn (fun h => absurd h hm) (fun _ h => by
  have ho' : findV l (verS r q s).rep (verS r q s).seq = none := ho
  rw [ho'] at h; cases h) (fun _ _ g n hg => .inl ⟨n, rfl, hg⟩)
theorem okAddV_none {l : List Ver} {g : SlI} {r : Int} {q : Nat} {s : List UInt8} {h d} (hg : g.ok) (hs : SortedV l) (hn : l.length ≤ 900) (hbn : g.l.length ≤ 900) (hm : missing l g.l) :
 FunOk Tryz.prog 80 [.pv (.sl false 11 (l.map verE)), .pv g.pv, .agg [.vec 2 [.i .i64 r, .i .u32 q], .pv (.s s), .vec 8 (vE fun _ => 0)]] h d (.tup [.pv (.sl true 0 []), .pv (.i .i64 2)]) [] := by
 refine FunOk.imp (args' := [.pv (.sl false 11 (l.map verE)), .pv (.sl g.f 2 (g.l.map idE)), .vec 11 (verE (verS r q s))]) ?_ ⟨Imp.refl _, slI_imp g hg, ver_imp r q s, trivial⟩ (by simp [tops, tn])
 exact okAdd_none rfl rfl hs hn hbn hm
def baseI (e : Evt) : Idn := match e.base.l with
 | [] => (0, 0)
 | b :: _ => b
def bytesV (l : List Ver) (e : Evt) : List UInt8 :=
 if e.kind = 5 then e.data
 else if e.kind = 4 then cutB (dataV l (baseI e).1 (baseI e).2).1 e.off.toNat
 else patchB (dataV l (baseI e).1 (baseI e).2).1 e.off.toNat e.data
structure FitsW (l : List Ver) (e : Evt) : Prop where
 k : e.kind = 3 ∨ e.kind = 4 ∨ e.kind = 5
 off : e.kind ≠ 5 → 0 ≤ e.off ∧ e.off ≤ 200
 len : e.kind = 3 → e.off + e.data.length ≤ 200
 data : ∀ v ∈ l, v.data.length ≤ 200
theorem dataV_len {l : List Ver} (h : ∀ v ∈ l, v.data.length ≤ 200) (r : Int) (q : Nat) : (dataV l r q).1.length ≤ 200 := by
 unfold dataV
 split
 · simp
 · split
   · rename_i v hv; exact h v (findV_mem hv).1
   · simp
theorem dataV_err (l : List Ver) (r : Int) (q : Nat) : (dataV l r q).2 = 0 ∨ (dataV l r q).2 = 2 := by
 unfold dataV
 split
 · exact .inl rfl
 · split
   · exact .inl rfl
   · exact .inr rfl
set_option maxHeartbeats 2000000 in
theorem okBytes {l : List Ver} {e : Evt} (he : ev e) (hf : FitsW l e) (hs : SortedV l) (hn : l.length ≤ 900) {h d} :
 FunOk Tryz.prog 79 [.pv (.sl false 11 (l.map verE)), .vec 21 (evE e)] h d (if e.kind = 5 ∨ (dataV l (baseI e).1 (baseI e).2).2 = 0 then .tup [.pv (.s (bytesV l e)), .pv (.i .i64 0)] else .tup [.pv (.s []), .pv (.i .i64 2)]) [] := by
 refine fun_pure mixed fn79 (by simp) rfl (by split <;> rfl) fun F => ?_
 by_cases h5 : e.kind = 5
 · rw [if_pos (.inl h5)]
   have hb : bytesV l e = e.data := if_pos h5
   simp (disch := omega) only [ir79, ld_ev10, h5, ld_ev19, hb, go_sem]
 · have hz : (if e.kind = 5 ∨ (dataV l (baseI e).1 (baseI e).2).2 = 0 then (SV.tup [.pv (.s (bytesV l e)), .pv (.i .i64 0)]) else .tup [.pv (.s []), .pv (.i .i64 2)]) = if (dataV l (baseI e).1 (baseI e).2).2 = 0 then (SV.tup [.pv (.s (bytesV l e)), .pv (.i .i64 0)]) else .tup [.pv (.s []), .pv (.i .i64 2)] := by
    by_cases hd : (dataV l (baseI e).1 (baseI e).2).2 = 0
    · rw [if_pos (.inr hd), if_pos hd]
    · rw [if_neg (fun q => q.elim h5 hd), if_neg hd]
   rw [hz]
   have hoff := hf.off h5
   have hdl := dataV_len hf.data (baseI e).1 (baseI e).2
   have hpv : e.base.pv = .sl e.base.f e.base.z (e.base.l.map idE) := rfl
   cases hbl : e.base.l with
   | nil =>
     obtain ⟨b, hb⟩ : ∃ b : Idn, b = (0, 0) := ⟨_, rfl⟩
     have hbi : baseI e = b := by unfold baseI; rw [hbl, hb]
     simp (disch := omega) only [ir79, ld_ev10, h5, ld_ev17, hpv, hbl, List.map_nil, go_sem]
     rw [hbi] at hdl ⊢
     have hde := dataV_err l b.1 b.2
     have hbv : bytesV l e = if e.kind = 4 then cutB (dataV l b.1 b.2).1 e.off.toNat else patchB (dataV l b.1 b.2).1 e.off.toNat e.data := by unfold bytesV; rw [if_neg h5, hbi]
     refine call_with (FunOk.imp (okData (l := l) b.1 b.2 rfl rfl hs (by omega)) ⟨Imp.refl _, by subst hb; exact imp_agg (by rfl) rfl, trivial⟩ (by simp [tops, tn])) ?_
     generalize dataV l b.1 b.2 = w at *
     by_cases hw : w.2 = 0
     · rw [if_pos hw]
       by_cases h4 : e.kind = 4
       · rw [if_pos h4] at hbv
         have hc := cutRv_ok (data := w.1) (n := e.off) (by omega)
         simp (disch := omega) only [hw, ld_ev10, h4, ld_ev18, go_sem]
         refine call_with (okCut w.1 e.off (by omega)) ?_
         simp (disch := omega) only [hc, hbv, go_sem]
       · rw [if_neg h4] at hbv
         have h3 : e.kind = 3 := by have := hf.k; omega
         have hl := hf.len h3
         have hc := patchR_ok (data := w.1) (off := e.off) (s := e.data) (by unfold patchBad; omega)
         simp (disch := omega) only [hw, ld_ev10, h4, ld_ev18, ld_ev19, go_sem]
         refine call_with (okPatch w.1 e.data e.off) ?_
         simp (disch := omega) only [hc, hbv, go_sem]
     · rw [if_neg hw]
       have hw2 := hde.resolve_left hw
       simp (disch := omega) only [hw2, go_sem]
   | cons b t =>
     have hbi : baseI e = b := by unfold baseI; rw [hbl]
     have hok : e.base.z = 2 := he.2.1.resolve_left (by rw [hbl]; simp)
     have h0 : (List.map idE (b :: t))[0]? = some (idE b) := rfl
     have hpos : (0 : Int) < ((t.length : Int) + 1) := by omega
     simp (disch := omega) only [ir79, ld_ev10, h5, ld_ev17, hpv, hbl, hok, List.length_map, h0, ld_idW, go_sem]
     rw [hbi] at hdl ⊢
     have hde := dataV_err l b.1 b.2
     have hbv : bytesV l e = if e.kind = 4 then cutB (dataV l b.1 b.2).1 e.off.toNat else patchB (dataV l b.1 b.2).1 e.off.toNat e.data := by unfold bytesV; rw [if_neg h5, hbi]
     refine call_with (FunOk.imp (okData (l := l) b.1 b.2 rfl rfl hs (by omega)) ⟨Imp.refl _, Imp.refl _, trivial⟩ (by simp [tops, tn])) ?_
     generalize dataV l b.1 b.2 = w at *
     by_cases hw : w.2 = 0
     · rw [if_pos hw]
       by_cases h4 : e.kind = 4
       · rw [if_pos h4] at hbv
         have hc := cutRv_ok (data := w.1) (n := e.off) (by omega)
         simp (disch := omega) only [hw, ld_ev10, h4, ld_ev18, go_sem]
         refine call_with (okCut w.1 e.off (by omega)) ?_
         simp (disch := omega) only [hc, hbv, go_sem]
       · rw [if_neg h4] at hbv
         have h3 : e.kind = 3 := by have := hf.k; omega
         have hl := hf.len h3
         have hc := patchR_ok (data := w.1) (off := e.off) (s := e.data) (by unfold patchBad; omega)
         simp (disch := omega) only [hw, ld_ev10, h4, ld_ev18, ld_ev19, go_sem]
         refine call_with (okPatch w.1 e.data e.off) ?_
         simp (disch := omega) only [hc, hbv, go_sem]
     · rw [if_neg hw]
       have hw2 := hde.resolve_left hw
       simp (disch := omega) only [hw2, go_sem]
abbrev evId (e : Evt) : Idn := (e.rep, e.seq)
abbrev evObj (e : Evt) : Idn := (e.orep, e.oseq)
abbrev evDir (e : Evt) : Idn := (e.drep, e.dseq)
theorem isO_t {l : List Obj} (hs : SortO l) {i : Idn} {o : Obj} (h : l[posO l i]? = some o) (ho : o.id = i) : isO l i = true := by
 rw [isO_pos hs, h]; simp [ho]
theorem dataV_ok {l : List Ver} {e : Evt} (h : ¬ missing l e.base.l) : (dataV l (baseI e).1 (baseI e).2).2 = 0 := by
 have key : ∀ b : Idn, (b = (0, 0) ∨ b ∈ e.base.l) → (dataV l b.1 b.2).2 = 0 := fun b hb => by
  by_cases hz : b.1 = 0 ∧ b.2 = 0
  · rw [dataV_0 hz]
  · cases hv : findV l b.1 b.2 with
    | some v => rw [dataV_s hz hv]
    | none =>
      rcases hb with rfl | hb
      · exact absurd ⟨rfl, rfl⟩ hz
      · exact absurd ⟨b, hb, hv⟩ h
 refine key _ ?_
 unfold baseI
 cases e.base.l with
 | nil => exact .inl rfl
 | cons b t => exact .inr List.mem_cons_self
structure StOk (s : St) : Prop where
 fine : Fine s
 so : SortO s.objs
 se : SortE s.ents
structure VerOk (o : Obj) (e : Evt) : Prop where
 sv : SortedV o.vers
 fw : FitsW o.vers e
 new : findV o.vers e.rep e.seq = none
 bl : e.base.l.length ≤ 900
theorem deep_end {rs : List Rv} {R : SV → FS → Prop} {s : FS} (h : resK s rs fun l => R (one l) s) : retW rs R s := ⟨s, .same s, h⟩
theorem getD_obj {l : List Obj} {k : Nat} {o : Obj} (h : l[k]? = some o) : (l.map objE).getD k [] = objE o := by
 rw [List.getD_eq_getElem?_getD, List.getElem?_map, h]; rfl
def wrO (s : St) (e : Evt) (o : Obj) : List Obj := s.objs.set (posO s.objs (evObj e)) { o with vers := addLV o.vers e.base.l (verS e.rep e.seq (bytesV o.vers e)) }
def wrX (s : St) : SV := .agg (segX s (.os 38) (entS s))
theorem wrX_names (s : St) : ∀ n ∈ tn (wrX s), n = 6 ∨ n = 38 := fun n hn => by
 simp [wrX, segX, entS, tn, tops] at hn; exact .inr hn
set_option maxHeartbeats 4000000 in
theorem okDoW {s : St} {e : Evt} {o : Obj} (hs : StOk s) (he : ev e) (ho : s.objs[posO s.objs (evObj e)]? = some o) (hid : o.id = evObj e) (hd : o.dir = false) (hv : VerOk o e) (hm : ¬ missing o.vers e.base.l) {h d}
 (hg : h 6 = some (.var (wrX s))) (h38 : h 38 = some (.row 15 (s.objs.map objE))) :
 DeepOk Tryz.prog 37 [.p 6 0, .vec 21 (evE e)] h d (.pv (.i .i64 0)) [.new 38 (.row 15 ((wrO s e o).map objE)), .upd 6 (.var (wrX s))] := by
 refine fun_deep mixed fn37 (by simp) hg h38 (by decide) rfl (wrX_names s) fun F => ?_
 have hk := hv.fw.k
 have n8 : ¬ e.kind = 8 := by omega
 have n9 : ¬ e.kind = 9 := by omega
 have n1 : ¬ e.kind = 1 := by omega
 have n2 : ¬ e.kind = 2 := by omega
 have n6 : ¬ e.kind = 6 := by omega
 have n7 : ¬ e.kind = 7 := by omega
 have hi := isO_t hs.so ho hid
 have hlt := (List.getElem?_eq_some_iff.1 ho).1
 have hel : (s.objs.map objE)[posO s.objs (evObj e)]? = some (objE o) := by rw [List.getElem?_map, ho]; rfl
 have hgd := getD_obj ho
 have a1 := hs.fine.on
 have a2 := hs.fine.ov o (List.mem_of_getElem? ho)
 have hb := okBytes he hv.fw hv.sv (by omega) (h := fun _ => none) (d := 0)
 rw [if_pos (.inr (dataV_ok hm))] at hb
 simp (disch := omega) only [ir37, wrX, segX, entS, ld_ev10, n8, n9, n1, n2, ld_evObj, go_sem]
 refine call_with (okAtO (l := s.objs) (evObj e) rfl rfl hs.so (by omega)) ?_
 simp (disch := omega) only [hi, List.length_map, n6, n7, ld_ev10, hel, ld_objDir, hd, ld_objVers, ld_ev, go_sem]
 refine call_with (hb.at (by simp [tops, tn])) ?_
 simp (disch := omega) only [hel, ld_objVers, ld_ev17, ld_evId, go_sem]
 have hpv : e.base.pv = .sl e.base.f e.base.z (e.base.l.map idE) := rfl
 have hA := okAddVD (g := e.base) (r := e.rep) (q := e.seq) (s := bytesV o.vers e) he.2.1 hv.sv (by omega) hv.bl hm hv.new (h := fun _ => none) (d := 0)
 refine call_with (hA.at (by simp [tops, tn, hpv])) ?_
 have hsp := spo_vers o false 11 (addLV o.vers e.base.l (verS e.rep e.seq (bytesV o.vers e)))
 have hset : (s.objs.map objE).set (posO s.objs (evObj e)) (objF false 11 { o with vers := addLV o.vers e.base.l (verS e.rep e.seq (bytesV o.vers e)) }) = (wrO s e o).map objE := by
  unfold wrO; rw [List.map_set]; rfl
 simp (disch := omega) only [hgd, hsp, List.length_map, hset, go_sem]
 refine deep_end ?_
 simp (disch := omega) only [go_sem]
def DoErr (s : St) (e : Evt) (n : Int) : Prop := ∀ (h : Nat → Option Blk) (d : Nat), h 6 = some (.var (wrX s)) → h 38 = some (.row 15 (s.objs.map objE)) → ∃ r X, DeepOk Tryz.prog 37 [.p 6 0, .vec 21 (evE e)] h d (.pv (.i .i64 n)) [.new 38 (.row 15 r), .upd 6 (.var X)]
set_option maxHeartbeats 4000000 in
theorem okDoW_miss {s : St} {e : Evt} {o : Obj} (hs : StOk s) (he : ev e) (ho : s.objs[posO s.objs (evObj e)]? = some o) (hid : o.id = evObj e) (hd : o.dir = false) (hv : VerOk o e) (hm : missing o.vers e.base.l) : DoErr s e 2 := by
 intro h d hg h38
 have hk := hv.fw.k
 have n8 : ¬ e.kind = 8 := by omega
 have n9 : ¬ e.kind = 9 := by omega
 have n1 : ¬ e.kind = 1 := by omega
 have n2 : ¬ e.kind = 2 := by omega
 have n6 : ¬ e.kind = 6 := by omega
 have n7 : ¬ e.kind = 7 := by omega
 have hi := isO_t hs.so ho hid
 have hlt := (List.getElem?_eq_some_iff.1 ho).1
 have hel : (s.objs.map objE)[posO s.objs (evObj e)]? = some (objE o) := by rw [List.getElem?_map, ho]; rfl
 have hgd := getD_obj ho
 have a1 := hs.fine.on
 have a2 := hs.fine.ov o (List.mem_of_getElem? ho)
 have hb := okBytes he hv.fw hv.sv (by omega) (h := fun _ => none) (d := 0)
 by_cases hq : e.kind = 5 ∨ (dataV o.vers (baseI e).1 (baseI e).2).2 = 0
 · rw [if_pos hq] at hb
   refine ⟨(s.objs.map objE).set (posO s.objs (evObj e)) (splice (objE o) 14 [.sl true 0 []]), wrX s, fun_deep mixed fn37 (by simp) hg h38 (by decide) rfl (wrX_names s) fun F => ?_⟩
   simp (disch := omega) only [ir37, wrX, segX, entS, ld_ev10, n8, n9, n1, n2, ld_evObj, go_sem]
   refine call_with (okAtO (l := s.objs) (evObj e) rfl rfl hs.so (by omega)) ?_
   simp (disch := omega) only [hi, List.length_map, n6, n7, ld_ev10, hel, ld_objDir, hd, ld_objVers, ld_ev, go_sem]
   refine call_with (hb.at (by simp [tops, tn])) ?_
   simp (disch := omega) only [hel, ld_objVers, ld_ev17, ld_evId, go_sem]
   have hpv : e.base.pv = .sl e.base.f e.base.z (e.base.l.map idE) := rfl
   have hA := okAddV_none (g := e.base) (r := e.rep) (q := e.seq) (s := bytesV o.vers e) he.2.1 hv.sv (by omega) hv.bl hm (h := fun _ => none) (d := 0)
   refine call_with (hA.at (by simp [tops, tn, hpv])) ?_
   simp (disch := omega) only [hgd, List.length_map, go_sem]
   refine deep_end ?_
   simp (disch := omega) only [go_sem]
 · rw [if_neg hq] at hb
   refine ⟨s.objs.map objE, wrX s, fun_deep mixed fn37 (by simp) hg h38 (by decide) rfl (wrX_names s) fun F => ?_⟩
   simp (disch := omega) only [ir37, wrX, segX, entS, ld_ev10, n8, n9, n1, n2, ld_evObj, go_sem]
   refine call_with (okAtO (l := s.objs) (evObj e) rfl rfl hs.so (by omega)) ?_
   simp (disch := omega) only [hi, List.length_map, n6, n7, ld_ev10, hel, ld_objDir, hd, ld_objVers, ld_ev, go_sem]
   refine call_with (hb.at (by simp [tops, tn])) ?_
   simp (disch := omega) only [go_sem]
   refine deep_end ?_
   simp (disch := omega) only [go_sem]
theorem okDo_dir {s : St} {e : Evt} {o : Obj} (hs : StOk s) (hk : e.kind = 3 ∨ e.kind = 4 ∨ e.kind = 5) (ho : s.objs[posO s.objs (evObj e)]? = some o) (hid : o.id = evObj e) (hd : o.dir = true) : DoErr s e 23 := by
 intro h d hg h38
 have n8 : ¬ e.kind = 8 := by omega
 have n9 : ¬ e.kind = 9 := by omega
 have n1 : ¬ e.kind = 1 := by omega
 have n2 : ¬ e.kind = 2 := by omega
 have n6 : ¬ e.kind = 6 := by omega
 have n7 : ¬ e.kind = 7 := by omega
 have hi := isO_t hs.so ho hid
 have hlt := (List.getElem?_eq_some_iff.1 ho).1
 have hel : (s.objs.map objE)[posO s.objs (evObj e)]? = some (objE o) := by rw [List.getElem?_map, ho]; rfl
 have a1 := hs.fine.on
 refine ⟨s.objs.map objE, wrX s, fun_deep mixed fn37 (by simp) hg h38 (by decide) rfl (wrX_names s) fun F => ?_⟩
 simp (disch := omega) only [ir37, wrX, segX, entS, ld_ev10, n8, n9, n1, n2, ld_evObj, go_sem]
 refine call_with (okAtO (l := s.objs) (evObj e) rfl rfl hs.so (by omega)) ?_
 simp (disch := omega) only [hi, List.length_map, n6, n7, ld_ev10, hel, ld_objDir, hd, ld_objVers, ld_ev, go_sem]
 refine deep_end ?_
 simp (disch := omega) only [go_sem]
theorem okDo_none {s : St} {e : Evt} (hs : StOk s) (hk : e.kind = 3 ∨ e.kind = 4 ∨ e.kind = 5 ∨ e.kind = 6 ∨ e.kind = 7) (hi : isO s.objs (evObj e) = false) : DoErr s e 2 := by
 intro h d hg h38
 have n8 : ¬ e.kind = 8 := by omega
 have n9 : ¬ e.kind = 9 := by omega
 have n1 : ¬ e.kind = 1 := by omega
 have n2 : ¬ e.kind = 2 := by omega
 have a1 := hs.fine.on
 refine ⟨s.objs.map objE, wrX s, fun_deep mixed fn37 (by simp) hg h38 (by decide) rfl (wrX_names s) fun F => ?_⟩
 simp (disch := omega) only [ir37, wrX, segX, entS, ld_ev10, n8, n9, n1, n2, ld_evObj, go_sem]
 refine call_with (okAtO (l := s.objs) (evObj e) rfl rfl hs.so (by omega)) ?_
 simp (disch := omega) only [hi, go_sem]
 refine deep_end ?_
 simp (disch := omega) only [go_sem]
theorem okInDirL {s : St} (i : Idn) {h d} (hs : SortO s.objs) (hn : s.objs.length ≤ 1000) (h38 : h 38 = some (.row 15 (s.objs.map objE))) :
 FunOk Tryz.prog 75 [.agg [.vec 8 (vE s.known), .os 38, .pv (.sl false 15 (s.ents.map entE)), .vec 8 (iE s.wards), .vec 8 (wE s.ret)], .vec 2 [.i .i64 i.1, .i .u32 i.2]] h d (.pv (.i .i64 (dirW s.objs i))) [] :=
 FunOk.lend (n := 38) (h' := h) (d' := d) h38 (by simp [tops, tn]) (by simp [tops, tn, SV.frz, SV.frzL]) rfl (okInDirD (s := s) i hs hn)
def newO (e : Evt) : Obj := ⟨evId e, decide (e.kind = 2), evId e, e.name, fun _ => 0, []⟩
def newEnt (e : Evt) (obj : Idn) : Ent := ⟨evId e, evDir e, e.name, obj, fun _ => 0⟩
theorem ent_imp (e : Evt) (obj : Idn) : Imp (.agg [.vec 2 [.i .i64 e.rep, .i .u32 e.seq], .vec 2 [.i .i64 e.drep, .i .u32 e.dseq], .pv (.s e.name), .vec 2 [.i .i64 obj.1, .i .u32 obj.2], .vec 8 (vE fun _ => 0)]) (.vec 15 (entE (newEnt e obj))) := imp_agg (by rfl) (entE_len _)
theorem okAddED {l : List Ent} (e : Evt) (obj : Idn) {h d} (hs : SortE l) (hn : l.length ≤ 1000) :
 FunOk Tryz.prog 77 [.pv (.sl false 15 (l.map entE)), .agg [.vec 2 [.i .i64 e.rep, .i .u32 e.seq], .vec 2 [.i .i64 e.drep, .i .u32 e.dseq], .pv (.s e.name), .vec 2 [.i .i64 obj.1, .i .u32 obj.2], .vec 8 (vE fun _ => 0)]] h d (.os d) [.new d (.row 15 ((addL l (newEnt e obj)).map entE))] :=
 FunOk.imp (okAddE (l := l) (newEnt e obj) rfl rfl hs hn) ⟨Imp.refl _, ent_imp e obj, trivial⟩ (by simp [tops, tn])
set_option maxHeartbeats 4000000 in
theorem okDoF_err {s : St} {e : Evt} (hs : StOk s) (hk : e.kind = 1 ∨ e.kind = 2) (hd : dirW s.objs (evDir e) ≠ 0) : DoErr s e (dirW s.objs (evDir e)) := by
 intro h d hg h38
 have n8 : ¬ e.kind = 8 := by omega
 have n9 : ¬ e.kind = 9 := by omega
 have a1 := hs.fine.on
 refine ⟨s.objs.map objE, wrX s, fun_deep mixed fn37 (by simp) hg h38 (by decide) rfl (wrX_names s) fun F => ?_⟩
 rcases hk with hk | hk
 all_goals
  simp (disch := omega) only [ir37, wrX, segX, entS, ld_ev10, n8, n9, hk, ld_evDir, go_sem]
  refine call_with (okInDirL (s := s) (evDir e) hs.so (by omega) rfl) ?_
  simp (disch := omega) only [hd, go_sem]
  refine deep_end ?_
  simp (disch := omega) only [go_sem]
def mkS (s : St) (e : Evt) : St := { s with objs := s.objs.take (posO s.objs (evId e)) ++ newO e :: s.objs.drop (posO s.objs (evId e)), ents := addL s.ents (newEnt e (evId e)) }
set_option maxHeartbeats 4000000 in
theorem okDoF {s : St} {e : Evt} (hs : StOk s) (hk : e.kind = 1 ∨ e.kind = 2) (hd : dirW s.objs (evDir e) = 0) {h d}
 (hg : h 6 = some (.var (wrX s))) (h38 : h 38 = some (.row 15 (s.objs.map objE))) :
 DeepOk Tryz.prog 37 [.p 6 0, .vec 21 (evE e)] h d (.pv (.i .i64 0)) [.new 38 (.row 15 ((s.objs.map objE).take (posO s.objs (evId e)) ++ objF true 0 (newO e) :: (s.objs.map objE).drop (posO s.objs (evId e)))), .upd 6 (.var (wrX (mkS s e)))] := by
 have n8 : ¬ e.kind = 8 := by omega
 have n9 : ¬ e.kind = 9 := by omega
 have a1 := hs.fine.on
 have a3 := hs.fine.en
 refine fun_deep mixed fn37 (by simp) hg h38 (by decide) rfl (wrX_names _) fun F => ?_
 rcases hk with hk | hk
 · skip
   simp (disch := omega) only [ir37, wrX, segX, entS, ld_ev10, n8, n9, hk, ld_evDir, go_sem]
   refine call_with (okInDirL (s := s) (evDir e) hs.so (by omega) rfl) ?_
   simp (disch := omega) only [hd, ld_evId, go_sem]
   refine call_with (okAtO (l := s.objs) (evId e) rfl rfl hs.so (by omega)) ?_
   have hN : ∀ b, b = decide (e.kind = 2) → (PV.i .i64 e.rep :: .i .u32 e.seq :: .b b :: .i .i64 e.rep :: .i .u32 e.seq :: .s e.name :: ((vE fun _ => 0) ++ [.sl true 0 []])) = objF true 0 (newO e) := fun b hb => by subst hb; rfl
   have hN := hN false (by simp [hk])
   have hl9 : ((vE fun _ => 0) ++ [PV.sl true 0 []]).length = 9 := by simp [vE_length]
   simp (disch := omega) only [ld_evId, ld_ev10, hk, ld_ev15, hN, hl9, objF_len, go_sem]
   have hp := posO_le s.objs (evId e)
   refine call_with (okInsO (m := 38) (n := 75) (s.objs.map objE) (objF true 0 (newO e)) (posO s.objs (evId e)) (by simpa using hp) (by simp; omega) (objE_lens _) (objF_len _ _ _) (by decide) (by decide) (by decide) (by decide) rfl rfl) ?_
   simp (disch := omega) only [ld_evId, ld_evDir, ld_ev15, go_sem]
   refine call_with (okAddED (l := s.ents) e (evId e) hs.se (by omega)) ?_
   simp (disch := omega) only [go_sem]
   refine ⟨_, wk_frz 93 rfl (wk_ren 76 38 (by decide) rfl (.same _)), ?_⟩
   (try simp only [bK1, bK2, bK3, bK4, bK5, bK6, bK7, bK8]); simp (disch := omega) only [mkS, go_sem]
 · skip
   simp (disch := omega) only [ir37, wrX, segX, entS, ld_ev10, n8, n9, hk, ld_evDir, go_sem]
   refine call_with (okInDirL (s := s) (evDir e) hs.so (by omega) rfl) ?_
   simp (disch := omega) only [hd, ld_evId, go_sem]
   refine call_with (okAtO (l := s.objs) (evId e) rfl rfl hs.so (by omega)) ?_
   have hN : ∀ b, b = decide (e.kind = 2) → (PV.i .i64 e.rep :: .i .u32 e.seq :: .b b :: .i .i64 e.rep :: .i .u32 e.seq :: .s e.name :: ((vE fun _ => 0) ++ [.sl true 0 []])) = objF true 0 (newO e) := fun b hb => by subst hb; rfl
   have hN := hN true (by simp [hk])
   have hl9 : ((vE fun _ => 0) ++ [PV.sl true 0 []]).length = 9 := by simp [vE_length]
   simp (disch := omega) only [ld_evId, ld_ev10, hk, ld_ev15, hN, hl9, objF_len, go_sem]
   have hp := posO_le s.objs (evId e)
   refine call_with (okInsO (m := 38) (n := 75) (s.objs.map objE) (objF true 0 (newO e)) (posO s.objs (evId e)) (by simpa using hp) (by simp; omega) (objE_lens _) (objF_len _ _ _) (by decide) (by decide) (by decide) (by decide) rfl rfl) ?_
   simp (disch := omega) only [ld_evId, ld_evDir, ld_ev15, go_sem]
   refine call_with (okAddED (l := s.ents) e (evId e) hs.se (by omega)) ?_
   simp (disch := omega) only [go_sem]
   refine ⟨_, wk_frz 93 rfl (wk_ren 76 38 (by decide) rfl (.same _)), ?_⟩
   (try simp only [bK1, bK2, bK3, bK4, bK5, bK6, bK7, bK8]); simp (disch := omega) only [mkS, go_sem]
def seatS (s : St) (e : Evt) : St := { s with wards := setV s.wards (e.rep - 1).toNat e.ward }
def retS (s : St) (e : Evt) : St := { s with ret := setV s.ret (e.rep - 1).toNat true }
theorem spl_ward (s : St) {k : Nat} (hk : k < 8) (n : Int) (a b : PV) : splice (vE s.known ++ a :: b :: (iE s.wards ++ wE s.ret)) (10 + k) [.i .i64 n] = vE s.known ++ a :: b :: (iE (setV s.wards k n) ++ wE s.ret) := by
 rw [← splice_iE hk]
 simp only [splice, vE, iE, wE, arrF]
 have hk2 : k = 0 ∨ k = 1 ∨ k = 2 ∨ k = 3 ∨ k = 4 ∨ k = 5 ∨ k = 6 ∨ k = 7 := by omega
 rcases hk2 with rfl | rfl | rfl | rfl | rfl | rfl | rfl | rfl <;> rfl
theorem spl_ret (s : St) {k : Nat} (hk : k < 8) (n : Bool) (a b : PV) : splice (vE s.known ++ a :: b :: (iE s.wards ++ wE s.ret)) (18 + k) [.b n] = vE s.known ++ a :: b :: (iE s.wards ++ wE (setV s.ret k n)) := by
 rw [← splice_wE hk]
 simp only [splice, vE, iE, wE, arrF]
 have hk2 : k = 0 ∨ k = 1 ∨ k = 2 ∨ k = 3 ∨ k = 4 ∨ k = 5 ∨ k = 6 ∨ k = 7 := by omega
 rcases hk2 with rfl | rfl | rfl | rfl | rfl | rfl | rfl | rfl <;> rfl
theorem st_seg (s : St) : Imp (.vec 26 (vE s.known ++ .sl false 15 (s.objs.map objE) :: .sl false 15 (s.ents.map entE) :: (iE s.wards ++ wE s.ret))) (.agg (segS s)) :=
 imp_seg ⟨vE_length _, _, rfl, _, rfl, _, rfl, iE_length _, _, rfl, wE_length _, [], by simp, rfl⟩
theorem okDoSeatF {s : St} {e : Evt} (hk : e.kind = 8) (hr : 1 ≤ e.rep ∧ e.rep ≤ 8) {h d} (hg : h 6 = some (.var (.agg (segS s)))) :
 FunOk Tryz.prog 37 [.p 6 0, .vec 21 (evE e)] h d (.pv (.i .i64 0)) [.upd 6 (.var (.agg (segS (seatS s e))))] := by
 refine fun_io1 (g := 6) mixed fn37 (by simp) (by simp [tops, tn]) (by simp [tops, tn]) hg rfl (by simp [Blk.ptr, SV.kill]) rfl (fun _ => rfl) fun F => ?_
 obtain ⟨k, hk8, hre⟩ : ∃ k : Nat, k < 8 ∧ e.rep - 1 = k := ⟨(e.rep - 1).toNat, by omega, by omega⟩
 have hS : seatS s e = { s with wards := setV s.wards k e.ward } := by unfold seatS; rw [hre]; rfl
 have hsp := spl_ward s hk8 e.ward (.sl false 15 (s.objs.map objE)) (.sl false 15 (s.ents.map entE))
 rw [hS]
 simp (disch := omega) only [ir37, segS, segX, Blk.ptr, ld_ev10, hk, ld_ev0, ld_ev20, hre, hsp, go_sem]
 refine ⟨mk [(4, .pv (.i .i64 0)), (1000000, .p 6 0)] [(6, some (.var (.agg (segS { s with wards := setV s.wards k e.ward }))))], weak_mk ?_ ?_, ?_⟩
 · simp (disch := omega) only [go_sem]
 · simp (disch := omega) only [go_sem]
   exact ⟨st_seg { s with wards := setV s.wards k e.ward }, rfl⟩
 (try simp only [bK1, bK2, bK3, bK4, bK5, bK6, bK7, bK8]); simp (disch := omega) only [go_sem]
 exact ⟨6, rfl, rfl⟩
theorem okDoRetF {s : St} {e : Evt} (hk : e.kind = 9) (hr : 1 ≤ e.rep ∧ e.rep ≤ 8) {h d} (hg : h 6 = some (.var (.agg (segS s)))) :
 FunOk Tryz.prog 37 [.p 6 0, .vec 21 (evE e)] h d (.pv (.i .i64 0)) [.upd 6 (.var (.agg (segS (retS s e))))] := by
 refine fun_io1 (g := 6) mixed fn37 (by simp) (by simp [tops, tn]) (by simp [tops, tn]) hg rfl (by simp [Blk.ptr, SV.kill]) rfl (fun _ => rfl) fun F => ?_
 obtain ⟨k, hk8, hre⟩ : ∃ k : Nat, k < 8 ∧ e.rep - 1 = k := ⟨(e.rep - 1).toNat, by omega, by omega⟩
 have hS : retS s e = { s with ret := setV s.ret k true } := by unfold retS; rw [hre]; rfl
 have hsp := spl_ret s hk8 true (.sl false 15 (s.objs.map objE)) (.sl false 15 (s.ents.map entE))
 rw [hS]
 simp (disch := omega) only [ir37, segS, segX, Blk.ptr, ld_ev10, hk, ld_ev0, hre, hsp, go_sem]
 refine ⟨mk [(4, .pv (.i .i64 0)), (1000000, .p 6 0)] [(6, some (.var (.agg (segS { s with ret := setV s.ret k true }))))], weak_mk ?_ ?_, ?_⟩
 · simp (disch := omega) only [go_sem]
 · simp (disch := omega) only [go_sem]
   exact ⟨st_seg { s with ret := setV s.ret k true }, rfl⟩
 (try simp only [bK1, bK2, bK3, bK4, bK5, bK6, bK7, bK8]); simp (disch := omega) only [go_sem]
 exact ⟨6, rfl, rfl⟩
theorem seg_frz (s : St) (es : List (List PV)) : Blk.frz 38 (.sl false 15 es) (.var (wrX s)) = .var (.agg (segX s (.pv (.sl false 15 es)) (entS s))) := by
 simp [wrX, segX, entS, Blk.frz, SV.frz, SV.frzL]
theorem okDoSeat {s : St} {e : Evt} (hk : e.kind = 8) (hr : 1 ≤ e.rep ∧ e.rep ≤ 8) {h d} (hg : h 6 = some (.var (wrX s))) (h38 : h 38 = some (.row 15 (s.objs.map objE))) :
 DeepOk Tryz.prog 37 [.p 6 0, .vec 21 (evE e)] h d (.pv (.i .i64 0)) [.frz 38 (.sl false 15 (s.objs.map objE)), .upd 6 (.var (.agg (segS (seatS s e))))] :=
 DeepOk.frz (args' := [.p 6 0, .vec 21 (evE e)]) (h' := fun k => if k = 38 then none else (h k).map (Blk.frz 38 (.sl false 15 (s.objs.map objE)))) (d' := d) h38 rfl (fun k _ => rfl) (okDoSeatF hk hr (by show (h 6).map _ = _; rw [hg, Option.map_some, seg_frz]; rfl))
theorem okDoRet {s : St} {e : Evt} (hk : e.kind = 9) (hr : 1 ≤ e.rep ∧ e.rep ≤ 8) {h d} (hg : h 6 = some (.var (wrX s))) (h38 : h 38 = some (.row 15 (s.objs.map objE))) :
 DeepOk Tryz.prog 37 [.p 6 0, .vec 21 (evE e)] h d (.pv (.i .i64 0)) [.frz 38 (.sl false 15 (s.objs.map objE)), .upd 6 (.var (.agg (segS (retS s e))))] :=
 DeepOk.frz (args' := [.p 6 0, .vec 21 (evE e)]) (h' := fun k => if k = 38 then none else (h k).map (Blk.frz 38 (.sl false 15 (s.objs.map objE)))) (d' := d) h38 rfl (fun k _ => rfl) (okDoRetF hk hr (by show (h 6).map _ = _; rw [hg, Option.map_some, seg_frz]; rfl))
def idxI (l : List Idn) (i : Idn) : Int := match l.findIdx? (fun x => decide (i = x)) with
 | some k => k
 | none => -1
def stIdx (f : Bool) (l : List Idn) (i : Idn) (k : Nat) : FS := mk [(8, .pv (.i .i64 k)), (7, .pv (.i .i64 l.length)), (0, .pv (.sl f 2 (l.map idE))), (3, .p 3 0)] [(3, some (.var (.vec 2 [.i .i64 i.1, .i .u32 i.2])))]
set_option maxHeartbeats 1000000 in
theorem okIndexI {f : Bool} {l : List Idn} (i : Idn) {h d} (hn : l.length ≤ 1000) : FunOk Tryz.prog 131 [.pv (.sl f 2 (l.map idE)), .vec 2 [.i .i64 i.1, .i .u32 i.2]] h d (.pv (.i .i64 (idxI l i))) [] := by
 refine fun_pure mixed fn131 (by simp) rfl rfl fun F => ?_
 simp (disch := omega) only [ir131, List.length_map, go_sem]
 refine loop_ok mixed (stIdx f l i) (fun k => k ≤ l.length ∧ ∀ j x, j < k → l[j]? = some x → i ≠ x) (fun k => l.length - k) 0 ⟨by simp, fun j x hj => absurd hj (Nat.not_lt_zero j)⟩ (weak_mk ?_ ?_) fun k hk => ?_
 · simp (disch := omega) only [go_sem]
 · simp (disch := omega) only [go_sem]
 obtain ⟨hk1, hk2⟩ := hk
 by_cases hlt : k < l.length
 · have hx : l[k]? = some l[k] := List.getElem?_eq_getElem hlt
   have he : (l.map idE)[k]? = some (idE l[k]) := by rw [List.getElem?_map, hx]; rfl
   generalize l[k] = b at *
   by_cases hb : i = b
   · have hp := peqI_t hb
     have e : idxI l i = k := by
      have : l.findIdx? (fun x => decide (i = x)) = some k := by
       rw [List.findIdx?_eq_some_iff_getElem]
       refine ⟨hlt, by rw [List.getElem?_eq_getElem hlt] at hx; cases hx; simpa using hb, fun j hj => ?_⟩
       have := hk2 j _ hj (List.getElem?_eq_getElem (by omega))
       simpa using this
      unfold idxI; rw [this]
     simp (disch := omega) only [stIdx, List.length_map, he, ld_idW, fits_id, hp, e, go_sem]
   · have hp := peqI_f hb
     simp (disch := omega) only [stIdx, List.length_map, he, ld_idW, fits_id, hp, go_sem]
     refine loop_next (k + 1) _ _ rfl ⟨by omega, fun j x hj hjx => ?_⟩ (by omega) ?_ ?_
     · by_cases ej : j = k
       · subst ej; rw [hx] at hjx; cases hjx; exact hb
       · exact hk2 j x (by omega) hjx
     · simp (disch := omega) only [go_sem]
     · simp (disch := omega) only [go_sem]
 · obtain rfl : k = l.length := by omega
   have e : idxI l i = -1 := by
    have : l.findIdx? (fun x => decide (i = x)) = none := by
     rw [List.findIdx?_eq_none_iff]
     intro x hx
     obtain ⟨j, hj⟩ := List.mem_iff_getElem?.1 hx
     have := hk2 j x (List.getElem?_eq_some_iff.1 hj).1 hj
     simpa using this
    unfold idxI; rw [this]
   simp (disch := omega) only [stIdx, e, go_sem]
theorem idxI_mem (l : List Idn) (i : Idn) : decide (0 ≤ idxI l i) = decide (i ∈ l) := by
 unfold idxI
 cases h : l.findIdx? (fun x => decide (i = x)) with
 | some k =>
   have := List.findIdx?_eq_some_iff_getElem.1 h
   obtain ⟨h1, h2, _⟩ := this
   have h3 : i = l[k] := by simpa using h2
   have : i ∈ l := by rw [h3]; exact List.getElem_mem h1
   simp only [this, decide_true, decide_eq_true_eq]; omega
 | none =>
   have h2 := List.findIdx?_eq_none_iff.1 h
   have : ¬ i ∈ l := fun hm => by have := h2 i hm; simp at this
   simp only [this, decide_false, decide_eq_false_iff_not]; omega
theorem okContainsI (g : SlI) (i : Idn) (hg : g.ok) {h d} (hn : g.l.length ≤ 1000) : FunOk Tryz.prog 106 [.pv g.pv, .vec 2 [.i .i64 i.1, .i .u32 i.2]] h d (.pv (.b (decide (i ∈ g.l)))) [] := by
 refine FunOk.imp (args' := [.pv (.sl g.f 2 (g.l.map idE)), .vec 2 [.i .i64 i.1, .i .u32 i.2]]) ?_ ⟨slI_imp g hg, Imp.refl _, trivial⟩ (by simp [tops, tn])
 refine fun_pure mixed fn106 (by simp) rfl rfl fun F => ?_
 have e := idxI_mem g.l i
 simp (disch := omega) only [ir106, go_sem]
 refine call_with (okIndexI (l := g.l) i hn) ?_
 simp (disch := omega) only [e, go_sem]
def goesB (e : Evt) (x : Ent) : Bool := decide (x.obj = evObj e) && decide (x.id ∈ e.gone.l)
def goneE (e : Evt) (l m : List Ent) : List Ent := m.foldl (fun a x => if goesB e x = true then killL a x.id (evId e) else a) l
theorem goneE_snoc (e : Evt) (l m : List Ent) (x : Ent) : goneE e l (m ++ [x]) = if goesB e x = true then killL (goneE e l m) x.id (evId e) else goneE e l m := by
 simp [goneE, List.foldl_append]
theorem goneE_sort {e : Evt} {l : List Ent} (h : SortE l) : ∀ m : List Ent, SortE (goneE e l m) := fun m => by
 unfold goneE
 induction m generalizing l with
 | nil => exact h
 | cons x m ih =>
   simp only [List.foldl_cons]
   split
   · exact ih (sort_kill h _ _)
   · exact ih h
theorem goneE_len {e : Evt} {l : List Ent} : ∀ m : List Ent, (goneE e l m).length = l.length := fun m => by
 unfold goneE
 induction m generalizing l with
 | nil => rfl
 | cons x m ih =>
   simp only [List.foldl_cons]
   split
   · rw [ih]; exact len_mod _ _ _
   · exact ih
def stMv (s : St) (e : Evt) (i k : Nat) : FS := mk [(27, .pv (.i .i64 k)), (26, .pv (.i .i64 s.ents.length)), (25, .pv (.sl false 15 (s.ents.map entE))), (5, .p 5 0), (0, .p 6 0), (1, .pr 38 15 i 0), (1000000, .p 6 0)] [(5, some (.var (.vec 21 (evE e)))), (6, some (.var (.agg (segX s (.os 38) (.pv (.sl false 15 ((goneE e s.ents (s.ents.take k)).map entE))))))), (38, some (.row 15 (s.objs.map objE)))]
theorem set_same {α : Type} {l : List α} {i : Nat} {x : α} (h : l[i]? = some x) : l.set i x = l := by
 obtain ⟨h1, h2⟩ := List.getElem?_eq_some_iff.1 h
 rw [← h2]; exact List.set_getElem_self h1
def dropS (s : St) (e : Evt) (i : Nat) (o : Obj) : St := { s with objs := s.objs.set i { o with seen := vJoin o.seen (withV e.dep e.rep e.seq) }, ents := goneE e s.ents s.ents }
set_option maxHeartbeats 4000000 in
theorem okMoveDrop {s : St} {e : Evt} {o : Obj} {i : Nat} (hs : StOk s) (he : ev e) (hk : e.kind = 6) (ho : s.objs[i]? = some o) {h d}
 (hg : h 6 = some (.var (wrX s))) (h38 : h 38 = some (.row 15 (s.objs.map objE))) :
 DeepOk Tryz.prog 78 [.p 6 0, .pr 38 15 i 0, .vec 21 (evE e)] h d (.pv (.i .i64 0)) [.new 38 (.row 15 ((dropS s e i o).objs.map objE)), .upd 6 (.var (wrX (dropS s e i o)))] := by
 refine fun_deep mixed fn78 (by simp) hg h38 (by decide) rfl (wrX_names _) fun F => ?_
 have hil := (List.getElem?_eq_some_iff.1 ho).1
 have hel : (s.objs.map objE)[i]? = some (objE o) := by rw [List.getElem?_map, ho]; rfl
 have hgd := getD_obj ho
 have a3 := hs.fine.en
 simp (disch := omega) only [ir78, wrX, segX, entS, ld_ev10, hk, List.length_map, go_sem]
 refine loop_ok mixed (stMv s e i) (fun k => k ≤ s.ents.length) (fun k => s.ents.length - k) 0 (by simp) (weak_mk ?_ ?_) fun k hk => ?_
 · simp (disch := omega) only [go_sem]
 · simp (disch := omega) only [segX, goneE, List.take_zero, List.foldl_nil, go_sem]
 by_cases hlt : k < s.ents.length
 · have hx : s.ents[k]? = some s.ents[k] := List.getElem?_eq_getElem hlt
   have hel : (s.ents.map entE)[k]? = some (entE s.ents[k]) := by rw [List.getElem?_map, hx]; rfl
   have ht := take_snoc hx
   have hsn := goneE_snoc e s.ents (s.ents.take k) s.ents[k]
   rw [← ht] at hsn
   generalize s.ents[k] = x at *
   have hel15 := entE_len x
   have hsoK := goneE_sort (e := e) hs.se (s.ents.take k)
   have hlK := goneE_len (e := e) (l := s.ents) (s.ents.take k)
   by_cases h1 : x.obj = evObj e
   · have hp := peqI_t h1
     have hpv : e.gone.pv = .sl e.gone.f e.gone.z (e.gone.l.map idE) := rfl
     simp (disch := omega) only [stMv, segX, List.length_map, hel, ld_ent, hel15, ld_entObj, ld_evObj, fitsId2, fits_id, hp, ld_ev16, ld_entId, go_sem]
     refine call_with (okContainsI e.gone x.id he.1 he.2.2.1) ?_
     by_cases h2 : x.id ∈ e.gone.l
     · have hg : goesB e x = true := by unfold goesB; simp [h1, h2]
       rw [if_pos hg] at hsn
       simp (disch := omega) only [h2, ld_entId, ld_evId, go_sem]
       refine call_with (okKillE (l := goneE e s.ents (s.ents.take k)) x.id (evId e) rfl rfl hsoK (by omega)) ?_
       simp (disch := omega) only [go_sem]
       refine ⟨k + 1, by omega, by omega, wk_frz 52 rfl (weak_mk ?_ ?_)⟩
       · simp (disch := omega) only [go_sem]
       · simp (disch := omega) only [segX, hsn, go_sem]
     · have hg : ¬ goesB e x = true := by unfold goesB; simp [h2]
       rw [if_neg hg] at hsn
       simp (disch := omega) only [h2, go_sem]
       refine loop_next (k + 1) _ _ rfl (by omega) (by omega) ?_ ?_
       · simp (disch := omega) only [go_sem]
       · simp (disch := omega) only [segX, hsn, go_sem]
   · have hp := peqI_f h1
     have hg : ¬ goesB e x = true := by unfold goesB; simp [h1]
     rw [if_neg hg] at hsn
     simp (disch := omega) only [stMv, segX, List.length_map, hel, ld_ent, hel15, ld_entObj, ld_evObj, fitsId2, fits_id, hp, ld_entId, go_sem]
     refine loop_next (k + 1) _ _ rfl (by omega) (by omega) ?_ ?_
     · simp (disch := omega) only [go_sem]
     · simp (disch := omega) only [segX, hsn, go_sem]
 obtain rfl : k = s.ents.length := by omega
 have htk : s.ents.take s.ents.length = s.ents := List.take_length
 simp (disch := omega) only [stMv, segX, htk, ld_ev10, hk, hel, ld_objSeen, ld_evDep, ld_evId, go_sem]
 refine call_with (okWith e.dep e.rep e.seq) ?_
 simp (disch := omega) only [go_sem]
 refine call_with (okJoin o.seen (withV e.dep e.rep e.seq)) ?_
 have hsp := spo_seen o (vJoin o.seen (withV e.dep e.rep e.seq))
 have hset : (s.objs.map objE).set i (objE { o with seen := vJoin o.seen (withV e.dep e.rep e.seq) }) = (dropS s e i o).objs.map objE := by
  unfold dropS; rw [List.map_set]
 have hvl := vE_length (vJoin o.seen (withV e.dep e.rep e.seq))
 simp (disch := omega) only [hgd, hsp, List.length_map, hset, go_sem]
 refine deep_end ?_
 simp (disch := omega) only [dropS, go_sem]
def moveO (e : Evt) (o : Obj) : Obj := if idLt o.last.1 o.last.2 e.rep e.seq = true then { o with last := evId e, name := e.name } else o
def moveS (s : St) (e : Evt) (i : Nat) (o : Obj) : St := { s with objs := s.objs.set i (moveO e o), ents := addL (goneE e s.ents s.ents) (newEnt e (evObj e)) }
set_option maxHeartbeats 4000000 in
theorem okMoveMove {s : St} {e : Evt} {o : Obj} {i : Nat} (hs : StOk s) (he : ev e) (hk : e.kind = 7) (hd : dirW s.objs (evDir e) = 0) (ho : s.objs[i]? = some o) {h d}
 (hg : h 6 = some (.var (wrX s))) (h38 : h 38 = some (.row 15 (s.objs.map objE))) :
 DeepOk Tryz.prog 78 [.p 6 0, .pr 38 15 i 0, .vec 21 (evE e)] h d (.pv (.i .i64 0)) [.new 38 (.row 15 ((moveS s e i o).objs.map objE)), .upd 6 (.var (wrX (moveS s e i o)))] := by
 refine fun_deep mixed fn78 (by simp) hg h38 (by decide) rfl (wrX_names _) fun F => ?_
 have hil := (List.getElem?_eq_some_iff.1 ho).1
 have hel : (s.objs.map objE)[i]? = some (objE o) := by rw [List.getElem?_map, ho]; rfl
 have hgd := getD_obj ho
 have a1 := hs.fine.on
 have a3 := hs.fine.en
 simp (disch := omega) only [ir78, wrX, segX, entS, ld_ev10, hk, ld_evDir, go_sem]
 refine call_with (okInDirL (s := s) (evDir e) hs.so (by omega) rfl) ?_
 simp (disch := omega) only [hd, List.length_map, go_sem]
 refine loop_ok mixed (stMv s e i) (fun k => k ≤ s.ents.length) (fun k => s.ents.length - k) 0 (by simp) (weak_mk ?_ ?_) fun k hk => ?_
 · simp (disch := omega) only [go_sem]
 · simp (disch := omega) only [segX, goneE, List.take_zero, List.foldl_nil, go_sem]
 by_cases hlt : k < s.ents.length
 · have hx : s.ents[k]? = some s.ents[k] := List.getElem?_eq_getElem hlt
   have hel : (s.ents.map entE)[k]? = some (entE s.ents[k]) := by rw [List.getElem?_map, hx]; rfl
   have ht := take_snoc hx
   have hsn := goneE_snoc e s.ents (s.ents.take k) s.ents[k]
   rw [← ht] at hsn
   generalize s.ents[k] = x at *
   have hel15 := entE_len x
   have hsoK := goneE_sort (e := e) hs.se (s.ents.take k)
   have hlK := goneE_len (e := e) (l := s.ents) (s.ents.take k)
   by_cases h1 : x.obj = evObj e
   · have hp := peqI_t h1
     have hpv : e.gone.pv = .sl e.gone.f e.gone.z (e.gone.l.map idE) := rfl
     simp (disch := omega) only [stMv, segX, List.length_map, hel, ld_ent, hel15, ld_entObj, ld_evObj, fitsId2, fits_id, hp, ld_ev16, ld_entId, go_sem]
     refine call_with (okContainsI e.gone x.id he.1 he.2.2.1) ?_
     by_cases h2 : x.id ∈ e.gone.l
     · have hg : goesB e x = true := by unfold goesB; simp [h1, h2]
       rw [if_pos hg] at hsn
       simp (disch := omega) only [h2, ld_entId, ld_evId, go_sem]
       refine call_with (okKillE (l := goneE e s.ents (s.ents.take k)) x.id (evId e) rfl rfl hsoK (by omega)) ?_
       simp (disch := omega) only [go_sem]
       refine ⟨k + 1, by omega, by omega, wk_frz 52 rfl (weak_mk ?_ ?_)⟩
       · simp (disch := omega) only [go_sem]
       · simp (disch := omega) only [segX, hsn, go_sem]
     · have hg : ¬ goesB e x = true := by unfold goesB; simp [h2]
       rw [if_neg hg] at hsn
       simp (disch := omega) only [h2, go_sem]
       refine loop_next (k + 1) _ _ rfl (by omega) (by omega) ?_ ?_
       · simp (disch := omega) only [go_sem]
       · simp (disch := omega) only [segX, hsn, go_sem]
   · have hp := peqI_f h1
     have hg : ¬ goesB e x = true := by unfold goesB; simp [h1]
     rw [if_neg hg] at hsn
     simp (disch := omega) only [stMv, segX, List.length_map, hel, ld_ent, hel15, ld_entObj, ld_evObj, fitsId2, fits_id, hp, ld_entId, go_sem]
     refine loop_next (k + 1) _ _ rfl (by omega) (by omega) ?_ ?_
     · simp (disch := omega) only [go_sem]
     · simp (disch := omega) only [segX, hsn, go_sem]
 obtain rfl : k = s.ents.length := by omega
 have htk : s.ents.take s.ents.length = s.ents := List.take_length
 have hsG := goneE_sort (e := e) hs.se s.ents
 have hlG := goneE_len (e := e) (l := s.ents) s.ents
 simp (disch := omega) only [stMv, segX, htk, ld_ev10, hk, ld_evId, ld_evDir, ld_ev15, ld_evObj, go_sem]
 refine call_with (okAddED (l := goneE e s.ents s.ents) e (evObj e) hsG (by omega)) ?_
 simp (disch := omega) only [hel, ld_objLast, ld_evId, go_sem]
 refine call_with (okLess o.last.1 o.last.2 e.rep e.seq) ?_
 by_cases hl : idLt o.last.1 o.last.2 e.rep e.seq = true
 · have hmo : moveO e o = { o with last := evId e, name := e.name } := if_pos hl
   have hsp := spo_last o (evId e)
   have hsp2 := spo_name { o with last := evId e } e.name
   have hset : ((s.objs.map objE).set i (objE { o with last := evId e })).set i (objE { o with last := evId e, name := e.name }) = (moveS s e i o).objs.map objE := by
    unfold moveS; rw [List.set_set, List.map_set, hmo]
   have hgd2 : ((s.objs.map objE).set i (objE { o with last := evId e })).getD i [] = objE { o with last := evId e } := by
    rw [List.getD_eq_getElem?_getD, List.getElem?_set_self (by simpa using hil)]; rfl
   simp (disch := omega) only [hl, go_sem]
   refine anyP_now ?_
   simp (disch := omega) only [ld_evId, ld_ev15, hgd, hsp, List.length_map, List.length_set, hgd2, hsp2, hset, go_sem]
   refine ⟨_, wk_frz 86 rfl (.same _), ?_⟩
   (try simp only [bK1, bK2, bK3, bK4, bK5, bK6, bK7, bK8]); simp (disch := omega) only [moveS, go_sem]
 · have hmo : moveO e o = o := if_neg hl
   have hl' : idLt o.last.1 o.last.2 e.rep e.seq = false := by simpa using hl
   have hset : s.objs.map objE = (moveS s e i o).objs.map objE := by
    unfold moveS; rw [hmo]
    show _ = (s.objs.set i o).map objE
    rw [set_same ho]
   simp (disch := omega) only [hl', go_sem]
   refine ⟨_, wk_frz 86 rfl (.same _), ?_⟩
   (try simp only [bK1, bK2, bK3, bK4, bK5, bK6, bK7, bK8]); simp (disch := omega) only [moveS, go_sem]
   exact congrArg (fun q => some (Blk.row 15 q)) hset
theorem okMove_err {s : St} {e : Evt} {i : Nat} (hs : StOk s) (hk : e.kind = 7) (hd : dirW s.objs (evDir e) ≠ 0) {h d}
 (hg : h 6 = some (.var (wrX s))) (h38 : h 38 = some (.row 15 (s.objs.map objE))) :
 DeepOk Tryz.prog 78 [.p 6 0, .pr 38 15 i 0, .vec 21 (evE e)] h d (.pv (.i .i64 (dirW s.objs (evDir e)))) [.new 38 (.row 15 (s.objs.map objE)), .upd 6 (.var (wrX s))] := by
 refine fun_deep mixed fn78 (by simp) hg h38 (by decide) rfl (wrX_names _) fun F => ?_
 have a1 := hs.fine.on
 simp (disch := omega) only [ir78, wrX, segX, entS, ld_ev10, hk, ld_evDir, go_sem]
 refine call_with (okInDirL (s := s) (evDir e) hs.so (by omega) rfl) ?_
 simp (disch := omega) only [hd, go_sem]
 refine deep_end ?_
 simp (disch := omega) only [go_sem]
set_option maxHeartbeats 4000000 in
theorem okDoDrop {s : St} {e : Evt} {o : Obj} (hs : StOk s) (he : ev e) (hk : e.kind = 6) (ho : s.objs[posO s.objs (evObj e)]? = some o) (hid : o.id = evObj e) {h d}
 (hg : h 6 = some (.var (wrX s))) (h38 : h 38 = some (.row 15 (s.objs.map objE))) :
 DeepOk Tryz.prog 37 [.p 6 0, .vec 21 (evE e)] h d (.pv (.i .i64 0)) [.new 38 (.row 15 ((dropS s e (posO s.objs (evObj e)) o).objs.map objE)), .upd 6 (.var (wrX (dropS s e (posO s.objs (evObj e)) o)))] := by
 refine fun_deep mixed fn37 (by simp) hg h38 (by decide) rfl (wrX_names _) fun F => ?_
 have n8 : ¬ e.kind = 8 := by omega
 have n9 : ¬ e.kind = 9 := by omega
 have n1 : ¬ e.kind = 1 := by omega
 have n2 : ¬ e.kind = 2 := by omega
 have hi := isO_t hs.so ho hid
 have hlt := (List.getElem?_eq_some_iff.1 ho).1
 have a1 := hs.fine.on
 simp (disch := omega) only [ir37, wrX, segX, entS, ld_ev10, n8, n9, n1, n2, ld_evObj, go_sem]
 refine call_with (okAtO (l := s.objs) (evObj e) rfl rfl hs.so (by omega)) ?_
 simp (disch := omega) only [hi, List.length_map, hk, ld_ev10, ld_ev, go_sem]
 refine call_deep (okMoveDrop hs he hk ho rfl rfl) ?_
 simp (disch := omega) only [wrX, segX, entS, go_sem]
 refine deep_end ?_
 simp (disch := omega) only [go_sem]
set_option maxHeartbeats 4000000 in
theorem okDoMove {s : St} {e : Evt} {o : Obj} (hs : StOk s) (he : ev e) (hk : e.kind = 7) (hd : dirW s.objs (evDir e) = 0) (ho : s.objs[posO s.objs (evObj e)]? = some o) (hid : o.id = evObj e) {h d}
 (hg : h 6 = some (.var (wrX s))) (h38 : h 38 = some (.row 15 (s.objs.map objE))) :
 DeepOk Tryz.prog 37 [.p 6 0, .vec 21 (evE e)] h d (.pv (.i .i64 0)) [.new 38 (.row 15 ((moveS s e (posO s.objs (evObj e)) o).objs.map objE)), .upd 6 (.var (wrX (moveS s e (posO s.objs (evObj e)) o)))] := by
 refine fun_deep mixed fn37 (by simp) hg h38 (by decide) rfl (wrX_names _) fun F => ?_
 have n8 : ¬ e.kind = 8 := by omega
 have n9 : ¬ e.kind = 9 := by omega
 have n1 : ¬ e.kind = 1 := by omega
 have n2 : ¬ e.kind = 2 := by omega
 have hi := isO_t hs.so ho hid
 have hlt := (List.getElem?_eq_some_iff.1 ho).1
 have a1 := hs.fine.on
 simp (disch := omega) only [ir37, wrX, segX, entS, ld_ev10, n8, n9, n1, n2, ld_evObj, go_sem]
 refine call_with (okAtO (l := s.objs) (evObj e) rfl rfl hs.so (by omega)) ?_
 simp (disch := omega) only [hi, List.length_map, hk, ld_ev10, ld_ev, go_sem]
 refine call_deep (okMoveMove hs he hk hd ho rfl rfl) ?_
 simp (disch := omega) only [wrX, segX, entS, go_sem]
 refine deep_end ?_
 simp (disch := omega) only [go_sem]
set_option maxHeartbeats 4000000 in
theorem okDoMove_err {s : St} {e : Evt} {o : Obj} (hs : StOk s) (hk : e.kind = 7) (hd : dirW s.objs (evDir e) ≠ 0) (ho : s.objs[posO s.objs (evObj e)]? = some o) (hid : o.id = evObj e) : DoErr s e (dirW s.objs (evDir e)) := by
 intro h d hg h38
 refine ⟨s.objs.map objE, wrX s, fun_deep mixed fn37 (by simp) hg h38 (by decide) rfl (wrX_names s) fun F => ?_⟩
 have n8 : ¬ e.kind = 8 := by omega
 have n9 : ¬ e.kind = 9 := by omega
 have n1 : ¬ e.kind = 1 := by omega
 have n2 : ¬ e.kind = 2 := by omega
 have hi := isO_t hs.so ho hid
 have hlt := (List.getElem?_eq_some_iff.1 ho).1
 have a1 := hs.fine.on
 simp (disch := omega) only [ir37, wrX, segX, entS, ld_ev10, n8, n9, n1, n2, ld_evObj, go_sem]
 refine call_with (okAtO (l := s.objs) (evObj e) rfl rfl hs.so (by omega)) ?_
 simp (disch := omega) only [hi, List.length_map, hk, ld_ev10, ld_ev, go_sem]
 refine call_deep (okMove_err hs hk hd rfl rfl) ?_
 simp (disch := omega) only [wrX, segX, entS, go_sem]
 refine deep_end ?_
 simp (disch := omega) only [go_sem]
end Go.Proofs.YthhomcfimdkfhaaGreat.Fw
namespace Go.Proofs.YthhomcfimdkfhaaGreat.Fw
open Go.RowKit Go.Proofs
def objAt (l : List Obj) (i : Idn) : Option Obj := match l[posO l i]? with
 | some o => if o.id = i then some o else none
 | none => none
theorem objAt_some {l : List Obj} {i : Idn} {o : Obj} (h : objAt l i = some o) : l[posO l i]? = some o ∧ o.id = i := by
 unfold objAt at h
 split at h
 · rename_i u hu
   split at h
   · rename_i hi; cases h; exact ⟨hu, hi⟩
   · cases h
 · cases h
theorem isO_objAt {l : List Obj} (hs : SortO l) (i : Idn) : isO l i = (objAt l i).isSome := by
 rw [isO_pos hs]; unfold objAt
 cases l[posO l i]? with
 | none => rfl
 | some x => simp only; by_cases h : x.id = i <;> simp [h]
theorem dirW_objAt {l : List Obj} (i : Idn) : dirW l i = if i = (0, 0) then 0 else match objAt l i with | some o => if o.dir = true then 0 else 22 | none => 2 := by
 unfold dirW objAt
 split
 · rfl
 · cases l[posO l i]? with
   | none => rfl
   | some x => simp only; by_cases h : x.id = i <;> simp [h]
open Classical in
noncomputable def whyD (s : St) (e : Evt) : Int :=
 if e.kind = 8 ∨ e.kind = 9 then 0
 else if e.kind = 1 ∨ e.kind = 2 then dirW s.objs (evDir e)
 else match objAt s.objs (evObj e) with
  | none => 2
  | some o => if e.kind = 7 then dirW s.objs (evDir e) else if e.kind = 6 then 0 else if o.dir = true then 23 else if missing o.vers e.base.l then 2 else 0
def doS (s : St) (e : Evt) : St :=
 if e.kind = 8 then seatS s e
 else if e.kind = 9 then retS s e
 else if e.kind = 1 ∨ e.kind = 2 then mkS s e
 else match objAt s.objs (evObj e) with
  | none => s
  | some o => if e.kind = 7 then moveS s e (posO s.objs (evObj e)) o else if e.kind = 6 then dropS s e (posO s.objs (evObj e)) o else { s with objs := wrO s e o }
noncomputable def whyS (s : St) (e : Evt) : Int :=
 if checkB e = false then 7
 else if hasB s.known e.rep e.seq = true then 11
 else if ¬ vLe e.dep s.known then 10
 else if s.ret (e.rep - 1).toNat = true then 28
 else whyD s e
def knowS (s : St) (e : Evt) : St := { s with known := withV s.known e.rep e.seq }
def applyS (s : St) (e : Evt) : St := doS (knowS s e) e
structure StIn (s : St) : Prop extends StOk s where
 sv : ∀ o ∈ s.objs, SortedV o.vers
 sd : ∀ o ∈ s.objs, ∀ v ∈ o.vers, v.data.length ≤ 200
 sk : ∀ o ∈ s.objs, ∀ v ∈ o.vers, hasB s.known v.rep v.seq = true
theorem check_base {e : Evt} (h : checkB e = true) : BaseP e := by
 unfold checkB at h
 simp only [Bool.and_eq_true, decide_eq_true_eq] at h
 exact h.1
theorem check_fits {e : Evt} (h : checkB e = true) (hk : e.kind = 3 ∨ e.kind = 4 ∨ e.kind = 5) {l : List Ver} (hd : ∀ v ∈ l, v.data.length ≤ 200) : FitsW l e := by
 unfold checkB at h
 simp only [Bool.and_eq_true, decide_eq_true_eq] at h
 have hK := h.2.2.2
 refine ⟨hk, fun h5 => ?_, fun h3 => ?_, hd⟩
 · have : e.kind = 3 ∨ e.kind = 4 := by omega
   rcases this with h3 | h4
   · rw [kindK_3 h3] at hK
     simp only [Bool.and_eq_true, sizeB, decide_eq_true_eq] at hK
     exact hK.2.2.1
   · rw [kindK_4 h4] at hK
     simp only [Bool.and_eq_true, sizeB, decide_eq_true_eq] at hK
     exact hK.2.2
 · rw [kindK_3 h3] at hK
   simp only [Bool.and_eq_true, sizeB, decide_eq_true_eq] at hK
   exact hK.2.2.2.2.2.2
theorem check_baselen {e : Evt} (h : checkB e = true) (hk : e.kind = 3 ∨ e.kind = 4 ∨ e.kind = 5) : e.base.l.length ≤ 8 := by
 unfold checkB at h
 simp only [Bool.and_eq_true, decide_eq_true_eq] at h
 have hK := h.2.2.2
 rcases hk with h3 | h3 | h3
 · rw [kindK_3 h3] at hK
   simp only [Bool.and_eq_true, idsB, decide_eq_true_eq] at hK
   have := hK.2.1.1; omega
 · rw [kindK_4 h3] at hK
   simp only [Bool.and_eq_true, idsB, decide_eq_true_eq] at hK
   have := hK.2.1.1; omega
 · rw [kindK_5 h3] at hK
   simp only [Bool.and_eq_true, idsB, decide_eq_true_eq] at hK
   have := hK.2.1.1; omega
structure DoIn (s : St) (e : Evt) : Prop where
 ok : StOk s
 ev : ev e
 ck : checkB e = true
 vo : e.kind = 3 ∨ e.kind = 4 ∨ e.kind = 5 → ∀ o ∈ s.objs, VerOk o e
theorem doErr {s : St} {e : Evt} (hi : DoIn s e) (hw : whyD s e ≠ 0) : DoErr s e (whyD s e) := by
 have hb := check_base hi.ck
 obtain ⟨b1, b2, b3, b4, b5, b6, b7⟩ := hb
 unfold whyD at hw ⊢
 rcases Classical.em (e.kind = 8 ∨ e.kind = 9) with h89 | h89
 · rw [if_pos h89] at hw; exact absurd rfl hw
 rw [if_neg h89] at hw ⊢
 rcases Classical.em (e.kind = 1 ∨ e.kind = 2) with h12 | h12
 · rw [if_pos h12] at hw ⊢
   exact okDoF_err hi.ok h12 hw
 rw [if_neg h12] at hw ⊢
 have hk : e.kind = 3 ∨ e.kind = 4 ∨ e.kind = 5 ∨ e.kind = 6 ∨ e.kind = 7 := by omega
 cases ho : objAt s.objs (evObj e) with
 | none =>
   have : isO s.objs (evObj e) = false := by rw [isO_objAt hi.ok.so, ho]; rfl
   exact okDo_none hi.ok hk this
 | some o =>
   rw [ho] at hw
   simp only at hw ⊢
   obtain ⟨g1, g2⟩ := objAt_some ho
   rcases Classical.em (e.kind = 7) with h7 | h7
   · rw [if_pos h7] at hw ⊢
     exact okDoMove_err hi.ok h7 hw g1 g2
   rw [if_neg h7] at hw ⊢
   rcases Classical.em (e.kind = 6) with h6 | h6
   · rw [if_pos h6] at hw; exact absurd rfl hw
   rw [if_neg h6] at hw ⊢
   have hk : e.kind = 3 ∨ e.kind = 4 ∨ e.kind = 5 := by omega
   rcases Classical.em (o.dir = true) with hd | hd
   · rw [if_pos hd]; exact okDo_dir hi.ok hk g1 g2 hd
   rw [if_neg hd] at hw ⊢
   rcases Classical.em (missing o.vers e.base.l) with hm | hm
   · rw [if_pos hm]; exact okDoW_miss hi.ok hi.ev g1 g2 (by simpa using hd) (hi.vo hk o (List.mem_of_getElem? g1)) hm
   · rw [if_neg hm] at hw; exact absurd rfl hw
theorem doOk {s : St} {e : Evt} (hi : DoIn s e) (hw : whyD s e = 0) (hk : ¬ (e.kind = 8 ∨ e.kind = 9)) : ∃ r, PImpR r ((doS s e).objs.map objE) ∧
 ∀ {h : Nat → Option Blk} {d : Nat}, h 6 = some (.var (wrX s)) → h 38 = some (.row 15 (s.objs.map objE)) → DeepOk Tryz.prog 37 [.p 6 0, .vec 21 (evE e)] h d (.pv (.i .i64 0)) [.new 38 (.row 15 r), .upd 6 (.var (wrX (doS s e)))] := by
 have hb := check_base hi.ck
 obtain ⟨b1, b2, b3, b4, b5, b6, b7⟩ := hb
 have n8 : ¬ e.kind = 8 := fun h => hk (.inl h)
 have n9 : ¬ e.kind = 9 := fun h => hk (.inr h)
 unfold whyD at hw
 unfold doS
 rw [if_neg hk] at hw
 rw [if_neg n8, if_neg n9]
 by_cases h12 : e.kind = 1 ∨ e.kind = 2
 · rw [if_pos h12] at hw ⊢
   refine ⟨_, ?_, fun hg h38 => okDoF hi.ok h12 hw hg h38⟩
   simp only [mkS, List.map_append, List.map_take, List.map_drop, List.map_cons]
   exact PImpR.app (.refl _) ⟨obj_imp (newO e) (.inl rfl), .refl _⟩
 rw [if_neg h12] at hw ⊢
 have hk' : e.kind = 3 ∨ e.kind = 4 ∨ e.kind = 5 ∨ e.kind = 6 ∨ e.kind = 7 := by omega
 cases ho : objAt s.objs (evObj e) with
 | none => rw [ho] at hw; cases hw
 | some o =>
   rw [ho] at hw
   simp only at hw ⊢
   obtain ⟨g1, g2⟩ := objAt_some ho
   by_cases h7 : e.kind = 7
   · rw [if_pos h7] at hw ⊢
     exact ⟨_, .refl _, fun hg h38 => okDoMove hi.ok hi.ev h7 hw g1 g2 hg h38⟩
   rw [if_neg h7] at hw ⊢
   by_cases h6 : e.kind = 6
   · rw [if_pos h6]
     exact ⟨_, .refl _, fun hg h38 => okDoDrop hi.ok hi.ev h6 g1 g2 hg h38⟩
   rw [if_neg h6] at hw ⊢
   have hk : e.kind = 3 ∨ e.kind = 4 ∨ e.kind = 5 := by omega
   by_cases hd : o.dir = true
   · rw [if_pos hd] at hw; cases hw
   rw [if_neg hd] at hw
   by_cases hm : missing o.vers e.base.l
   · rw [if_pos hm] at hw; cases hw
   · exact ⟨_, .refl _, fun hg h38 => okDoW hi.ok hi.ev g1 g2 (by simpa using hd) (hi.vo hk o (List.mem_of_getElem? g1)) hm hg h38⟩
theorem find_new {s : St} (hs : StIn s) {e : Evt} (h : hasB s.known e.rep e.seq = false) {o : Obj} (ho : o ∈ s.objs) : findV o.vers e.rep e.seq = none := by
 rw [findV_none]
 intro v hv ⟨h1, h2⟩
 have := hs.sk o ho v hv
 rw [h1, h2, h] at this; cases this
theorem know_doIn {s : St} (hs : StIn s) {e : Evt} (he : ev e) (hc : checkB e = true) (h : hasB s.known e.rep e.seq = false) : DoIn (knowS s e) e :=
 ⟨⟨⟨hs.fine.on, hs.fine.ov, hs.fine.en⟩, hs.so, hs.se⟩, he, hc, fun hk o ho => ⟨hs.sv o ho, check_fits hc hk (hs.sd o ho), find_new hs h ho, Nat.le_trans (check_baselen hc hk) (by omega)⟩⟩
theorem ld_retS (a b : PV) (w : Nat → Int) (r : Nat → Bool) {j : Nat} (hj : j < 8) (K : KK) : LoadK (some (a :: b :: (iE w ++ wE r))) (18 + j - 8) 1 false K = K (.pv (.b (r j))) [] := by
 have e : 18 + j - 8 = 10 + j := by omega
 rw [e]
 simp only [LoadK, ldX, eq_iff_iff]
 have e2 : (a :: b :: (iE w ++ wE r)).getD (10 + j) (.b false) = .b (r j) := by
  have hk2 : j = 0 ∨ j = 1 ∨ j = 2 ∨ j = 3 ∨ j = 4 ∨ j = 5 ∨ j = 6 ∨ j = 7 := by omega
  simp only [iE, wE, arrF]
  rcases hk2 with rfl | rfl | rfl | rfl | rfl | rfl | rfl | rfl <;> rfl
 rw [e2]
 exact ⟨fun h => h.2.2, fun h => ⟨by simp [iE_length, wE_length]; omega, .inr trivial, h⟩⟩
theorem tup_imp {x y z : SV} (h : Imp x y) : Imp (.tup [x, z]) (.tup [y, z]) := imp_tup ⟨h, Imp.refl _, trivial⟩
noncomputable def resS (s : St) (e : Evt) : St := if whyS s e = 0 then applyS s e else st0
theorem res_err {s : St} {e : Evt} {n : Int} (h : whyS s e = n) (hn : n ≠ 0) : Imp (.tup [.agg [.vec 8 (vE fun _ => 0), .pv (.sl true 0 []), .pv (.sl true 0 []), .vec 8 (iE fun _ => 0), .vec 8 (wE fun _ => false)], .pv (.i .i64 n)]) (.tup [.agg (segS (resS s e)), .pv (.i .i64 (whyS s e))]) := by
 have e1 : resS s e = st0 := if_neg (by rw [h]; exact hn)
 rw [e1, h]
 exact tup_imp seg0_imp
set_option maxHeartbeats 8000000 in
theorem okApply {s : St} {e : Evt} (hs : StIn s) (he : ev e) {h d} : FunOk Tryz.prog 13 [.agg (segS s), .vec 21 (evE e)] h d (.tup [.agg (segS (resS s e)), .pv (.i .i64 (whyS s e))]) [] := by
 refine fun_pureI mixed fn13 (by simp) rfl rfl fun F => ?_
 simp (disch := omega) only [ir13, segS, segX, ld_ev, go_sem]
 refine call_with (okCheck e he) ?_
 by_cases hc' : checkB e = false
 · have hw : whyS s e = 7 := if_pos hc'
   simp (disch := omega) only [hc', go_sem]
   refine deep_end ?_
   simp (disch := omega) only [go_sem]
   exact res_err hw (by decide)
 have hc : checkB e = true := by simpa using hc'
 have hb := check_base hc
 obtain ⟨b1, b2, _⟩ := hb
 simp (disch := omega) only [hc, ld_evId, ld_evDep, go_sem]
 refine call_with (okHasV _ _ _) ?_
 by_cases h1 : hasB s.known e.rep e.seq = true
 · have hw : whyS s e = 11 := by unfold whyS; rw [if_neg hc', if_pos h1]
   simp (disch := omega) only [h1, go_sem]
   refine deep_end ?_
   simp (disch := omega) only [go_sem]
   exact res_err hw (by decide)
 have h1' : hasB s.known e.rep e.seq = false := by simpa using h1
 simp (disch := omega) only [h1', ld_evDep, go_sem]
 refine call_with (okLeq _ _) ?_
 by_cases h2 : vLe e.dep s.known
 rotate_left
 · have hw : whyS s e = 10 := by unfold whyS; rw [if_neg hc', if_neg h1, if_pos h2]
   have h2' := decide_eq_false h2
   simp (disch := omega) only [h2', go_sem]
   refine deep_end ?_
   simp (disch := omega) only [go_sem]
   exact res_err hw (by decide)
 have h2' := decide_eq_true h2
 obtain ⟨k, hk8, hre⟩ : ∃ k : Nat, k < 8 ∧ e.rep - 1 = k := ⟨(e.rep - 1).toNat, by omega, by omega⟩
 have hld := fun (a b : PV) (w : Nat → Int) (r : Nat → Bool) (K : KK) => ld_retS a b w r hk8 K
 simp (disch := omega) only [h2', ld_ev0, hre, hld, go_sem]
 by_cases h3 : s.ret k = true
 · have hw : whyS s e = 28 := by unfold whyS; rw [if_neg hc', if_neg h1, if_neg (by simpa using h2), if_pos (by rw [hre]; exact h3)]
   simp (disch := omega) only [h3, go_sem]
   refine deep_end ?_
   simp (disch := omega) only [go_sem]
   exact res_err hw (by decide)
 have h3' : s.ret k = false := by simpa using h3
 have hw : whyS s e = whyD (knowS s e) e := by unfold whyS; rw [if_neg hc', if_neg h1, if_neg (by simpa using h2), if_neg (by rw [hre]; exact h3)]; rfl
 simp (disch := omega) only [h3', go_sem]
 refine call_with (okCloneS (s := s) hs.fine) ?_
 simp (disch := omega) only [segX, entS, ld_evId, go_sem]
 refine call_with (okWith s.known e.rep e.seq) ?_
 have hvl := vE_length (withV s.known e.rep e.seq)
 simp (disch := omega) only [ld_ev, hvl, go_sem]
 have hdi := know_doIn hs he hc h1'
 by_cases hz : whyD (knowS s e) e = 0
 rotate_left
 · generalize hH : FS.h _ = H
   have g6 : H 6 = some (.var (wrX (knowS s e))) := by rw [← hH]; rfl
   have g38 : H 38 = some (.row 15 ((knowS s e).objs.map objE)) := by rw [← hH]; rfl
   obtain ⟨r, X, hdo⟩ := doErr hdi hz H 46 g6 g38
   refine call_deep hdo ?_
   simp (disch := omega) only [hz, go_sem]
   refine deep_end ?_
   simp (disch := omega) only [go_sem]
   exact res_err hw hz
 have hR : resS s e = doS (knowS s e) e := if_pos (hw.trans hz)
 rw [hR, hw, hz]
 by_cases h8 : e.kind = 8
 · have hS : doS (knowS s e) e = seatS (knowS s e) e := if_pos h8
   rw [hS]
   refine call_deep (okDoSeat (s := knowS s e) h8 ⟨b1, b2⟩ rfl rfl) ?_
   simp (disch := omega) only [segS, segX, go_sem]
   refine deep_end ?_
   simp (disch := omega) only [go_sem]
 by_cases h9 : e.kind = 9
 · have hS : doS (knowS s e) e = retS (knowS s e) e := by unfold doS; rw [if_neg h8, if_pos h9]
   rw [hS]
   refine call_deep (okDoRet (s := knowS s e) h9 ⟨b1, b2⟩ rfl rfl) ?_
   simp (disch := omega) only [segS, segX, go_sem]
   refine deep_end ?_
   simp (disch := omega) only [go_sem]
 obtain ⟨r, hr, hdo⟩ := doOk hdi hz (fun h => h.elim h8 h9)
 refine call_deep (hdo rfl rfl) ?_
 generalize doS (knowS s e) e = S at *
 simp (disch := omega) only [wrX, segX, entS, go_sem]
 refine ⟨_, wk_frz 38 rfl (.same _), ?_⟩
 (try simp only [bK1, bK2, bK3, bK4, bK5, bK6, bK7, bK8]); simp (disch := omega) only [go_sem]
 exact tup_imp (seg_imp (s := S) (.inr rfl) (.inr rfl) hr (.refl _))
end Go.Proofs.YthhomcfimdkfhaaGreat.Fw
namespace Go.Proofs.YthhomcfimdkfhaaGreat.Fw
open Go.RowKit Go.Proofs
theorem okZero12 (r : Int) (q : Nat) {h d} : FunOk Tryz.prog 65 [.vec 2 [.i .i64 r, .i .u32 q]] h d (.pv (.b (zeroB r q))) [] := by
 refine fun_pure mixed fn65 (by simp) rfl rfl fun F => ?_
 by_cases h1 : r = 0
 · by_cases h2 : q = 0
   · have e : zeroB r q = true := decide_eq_true ⟨h1, h2⟩
     have h2' : (q : Int) = 0 := by omega
     simp (disch := omega) only [ir65, ld_id0, ld_id1, h1, h2', e, go_sem]
     simp [zeroB, h2]
   · have e : zeroB r q = false := decide_eq_false fun h => h2 h.2
     have h2' : ¬ (q : Int) = 0 := by omega
     simp (disch := omega) only [ir65, ld_id0, ld_id1, h1, h2', e, go_sem]
     simp [zeroB, h2]
 · have e : zeroB r q = false := decide_eq_false fun h => h1 h.1
   simp (disch := omega) only [ir65, ld_id0, ld_id1, h1, e, go_sem]
def stIn12 (f : Bool) (l : List Idn) (i : Idn) (k : Nat) : FS := mk [(5, .pv (.i .i64 k)), (0, .pv (.sl f 2 (l.map idE))), (3, .p 3 0)] [(3, some (.var (.vec 2 [.i .i64 i.1, .i .u32 i.2])))]
set_option maxHeartbeats 1000000 in
theorem okIn12 (g : SlI) (i : Idn) (hg : g.ok) {h d} (hn : g.l.length ≤ 1000) : FunOk Tryz.prog 66 [.pv g.pv, .vec 2 [.i .i64 i.1, .i .u32 i.2]] h d (.pv (.b (decide (i ∈ g.l)))) [] := by
 refine FunOk.imp (args' := [.pv (.sl g.f 2 (g.l.map idE)), .vec 2 [.i .i64 i.1, .i .u32 i.2]]) ?_ ⟨slI_imp g hg, Imp.refl _, trivial⟩ (by simp [tops, tn])
 refine fun_pure mixed fn66 (by simp) rfl rfl fun F => ?_
 generalize g.f = f
 generalize g.l = l at *
 simp (disch := omega) only [ir66, List.length_map, go_sem]
 refine loop_ok mixed (stIn12 f l i) (fun k => k ≤ l.length ∧ ∀ j x, j < k → l[j]? = some x → i ≠ x) (fun k => l.length - k) 0 ⟨by simp, fun j x hj => absurd hj (Nat.not_lt_zero j)⟩ (weak_mk ?_ ?_) fun k hk => ?_
 · simp (disch := omega) only [go_sem]
 · simp (disch := omega) only [go_sem]
 obtain ⟨hk1, hk2⟩ := hk
 by_cases hlt : k < l.length
 · have hx : l[k]? = some l[k] := List.getElem?_eq_getElem hlt
   have he : (l.map idE)[k]? = some (idE l[k]) := by rw [List.getElem?_map, hx]; rfl
   have hm := List.getElem_mem hlt
   generalize l[k] = b at *
   by_cases hb : b = i
   · have hp := peqI_t hb
     have e : decide (i ∈ l) = true := decide_eq_true (hb ▸ hm)
     simp (disch := omega) only [stIn12, List.length_map, he, ld_idW, fits_id, hp, e, go_sem]
   · have hp := peqI_f hb
     simp (disch := omega) only [stIn12, List.length_map, he, ld_idW, fits_id, hp, go_sem]
     refine loop_next (k + 1) _ _ rfl ⟨by omega, fun j x hj hjx => ?_⟩ (by omega) ?_ ?_
     · by_cases ej : j = k
       · subst ej; rw [hx] at hjx; cases hjx; exact fun q => hb q.symm
       · exact hk2 j x (by omega) hjx
     · simp (disch := omega) only [go_sem]
     · simp (disch := omega) only [go_sem]
 · obtain rfl : k = l.length := by omega
   have e : decide (i ∈ l) = false := decide_eq_false fun hm => by
    obtain ⟨j, hj⟩ := List.mem_iff_getElem?.1 hm
    exact hk2 j i (List.getElem?_eq_some_iff.1 hj).1 hj rfl
   simp (disch := omega) only [stIn12, List.length_map, e, go_sem]
theorem vE_withR (v : Vc) (r : Int) (q : Nat) : vE (vJoin v (oneV r q)) = vE (withV v r q) := vE_ext fun i hi => (with_one v r q i hi).symm
theorem okWithR' (v : Vc) (r : Int) (q : Nat) {h d} : FunOk Tryz.prog 20 [.vec 8 (vE v), .vec 2 [.i .i64 r, .i .u32 q]] h d (.vec 8 (vE (withV v r q))) [] := by
 rw [← vE_withR]; exact okWithR v r q
def knownG (l : List Evt) : Vc := l.foldl (fun v e => withV v e.rep e.seq) (fun _ => 0)
theorem knownG_snoc (l : List Evt) (e : Evt) : knownG (l ++ [e]) = withV (knownG l) e.rep e.seq := by simp [knownG]
def stKnown (f : Bool) (l : List Evt) (k : Nat) : FS := mk [(4, .pv (.i .i64 k)), (0, .pv (.sl f 21 (l.map evE))), (3, .p 3 0), (2, .p 2 0)] [(3, some (.var (.vec 8 (vE (knownG (l.take k)))))), (2, some (.var (.vec 8 (vE fun _ => 0))))]
set_option maxHeartbeats 1000000 in
theorem okKnown {x : SV} {f : Bool} {l : List Evt} {h d} (hx : lents h [x] = [.pv (.sl f 21 (l.map evE))]) (hl : lendable [x] = true) (hn : l.length ≤ 1000) : FunOk Tryz.prog 28 [x] h d (.vec 8 (vE (knownG l))) [] := by
 refine fun_scalar mixed fn28 (by simp) hl (vE_flat _) fun F => ?_
 rw [hx]
 simp (disch := omega) only [ir28, go_sem]
 refine loop_ok mixed (stKnown f l) (fun k => k ≤ l.length) (fun k => l.length - k) 0 (by simp) (weak_mk ?_ ?_) fun k hk => ?_
 · simp (disch := omega) only [go_sem]
 · simp (disch := omega) only [knownG, List.take_zero, List.foldl_nil, go_sem]
 by_cases hlt : k < l.length
 · have hx : l[k]? = some l[k] := List.getElem?_eq_getElem hlt
   have he : (l.map evE)[k]? = some (evE l[k]) := by rw [List.getElem?_map, hx]; rfl
   have ht := take_snoc hx
   generalize l[k] = e at *
   have hs : knownG (l.take (k + 1)) = withV (knownG (l.take k)) e.rep e.seq := by rw [ht, knownG_snoc]
   simp (disch := omega) only [stKnown, List.length_map, he, ld_evId, go_sem]
   refine call_with (okWithR' _ _ _) ?_
   simp (disch := omega) only [go_sem]
   refine loop_next (k + 1) _ _ rfl (by omega) (by omega) ?_ ?_
   · simp (disch := omega) only [go_sem]
   · simp (disch := omega) only [hs, go_sem]
 · obtain rfl : k = l.length := by omega
   have htk : l.take l.length = l := List.take_length
   simp (disch := omega) only [stKnown, List.length_map, htk, go_sem]
def findL (l : List Evt) (i : Idn) : Option Evt := l.find? fun e => decide (evId e = i)
def stFind (f : Bool) (l : List Evt) (i : Idn) (z : SV) (k : Nat) : FS := mk [(6, .pv (.i .i64 k)), (0, .pv (.sl f 21 (l.map evE))), (3, .p 3 0), (4, .p 4 0)] [(3, some (.var (.vec 2 [.i .i64 i.1, .i .u32 i.2]))), (4, some (.var z))]
theorem find_at {l : List Evt} {i : Idn} {k : Nat} {e : Evt} (h : ∀ j x, j < k → l[j]? = some x → evId x ≠ i) (hx : l[k]? = some e) (he : evId e = i) : findL l i = some e := by
 obtain ⟨hlt, hg⟩ := List.getElem?_eq_some_iff.1 hx
 unfold findL
 rw [List.find?_eq_some_iff_getElem]
 refine ⟨by simpa using he, k, hlt, hg, fun j hj => ?_⟩
 simpa using h j _ hj (List.getElem?_eq_getElem (by omega))
theorem find_none {l : List Evt} {i : Idn} (h : ∀ j x, j < l.length → l[j]? = some x → evId x ≠ i) : findL l i = none := by
 unfold findL
 rw [List.find?_eq_none]
 intro x hx
 obtain ⟨j, hj⟩ := List.mem_iff_getElem?.1 hx
 simpa using h j x (List.getElem?_eq_some_iff.1 hj).1 hj
set_option maxHeartbeats 1000000 in
theorem okFind {f : Bool} {l : List Evt} (i : Idn) {h d} (hn : l.length ≤ 1000) : FunOk Tryz.prog 120 [.pv (.sl f 21 (l.map evE)), .vec 2 [.i .i64 i.1, .i .u32 i.2]] h d (match findL l i with | some e => .tup [.vec 21 (evE e), .pv (.b true)] | none => .tup [.vec 21 (evE ⟨0, 0, fun _ => 0, 0, 0, 0, 0, 0, [], .nil, .nil, 0, [], 0⟩), .pv (.b false)]) [] := by
 refine fun_pureI mixed fn120 (by simp) rfl (by split <;> rfl) fun F => ?_
 simp (disch := omega) only [ir120, List.length_map, go_sem]
 refine loop_ok mixed (stFind f l i (.agg [.pv (.i .i64 0), .pv (.i .u32 0), .vec 8 (vE fun _ => 0), .pv (.i .i64 0), .pv (.i .i64 0), .pv (.i .u32 0), .pv (.i .i64 0), .pv (.i .u32 0), .pv (.s []), .pv (.sl true 0 []), .pv (.sl true 0 []), .pv (.i .i64 0), .pv (.s []), .pv (.i .i64 0)])) (fun k => k ≤ l.length ∧ ∀ j x, j < k → l[j]? = some x → evId x ≠ i) (fun k => l.length - k) 0 ⟨by simp, fun j x hj => absurd hj (Nat.not_lt_zero j)⟩ (weak_mk ?_ ?_) fun k hk => ?_
 · simp (disch := omega) only [go_sem]
 · simp (disch := omega) only [go_sem]
 obtain ⟨hk1, hk2⟩ := hk
 by_cases hlt : k < l.length
 · have hx : l[k]? = some l[k] := List.getElem?_eq_getElem hlt
   have he : (l.map evE)[k]? = some (evE l[k]) := by rw [List.getElem?_map, hx]; rfl
   generalize l[k] = e at *
   by_cases hb : evId e = i
   · have hp := peqI_t hb
     have hf := find_at hk2 hx hb
     rw [hf]
     (try simp only [bK1, bK2, bK3, bK4, bK5, bK6, bK7, bK8]); simp (disch := omega) only [stFind, List.length_map, he, ld_evId, fits_id, hp, ld_ev, go_sem]
     refine deep_end ?_
     simp (disch := omega) only [go_sem]
   · have hp := peqI_f hb
     simp (disch := omega) only [stFind, List.length_map, he, ld_evId, fits_id, hp, go_sem]
     refine loop_next (k + 1) _ _ rfl ⟨by omega, fun j x hj hjx => ?_⟩ (by omega) ?_ ?_
     · by_cases ej : j = k
       · subst ej; rw [hx] at hjx; cases hjx; exact hb
       · exact hk2 j x (by omega) hjx
     · simp (disch := omega) only [go_sem]
     · simp (disch := omega) only [go_sem]
 · obtain rfl : k = l.length := by omega
   rw [find_none hk2]
   (try simp only [bK1, bK2, bK3, bK4, bK5, bK6, bK7, bK8]); simp (disch := omega) only [stFind, List.length_map, go_sem]
   refine deep_end ?_
   simp (disch := omega) only [go_sem]
   exact tup_imp (imp_agg rfl (by simp [evE_len]))
theorem okWrites (e : Evt) {h d} : FunOk Tryz.prog 97 [.vec 21 (evE e)] h d (.pv (.b (decide (e.kind = 3 ∨ e.kind = 4 ∨ e.kind = 5)))) [] := by
 refine fun_pure mixed fn97 (by simp) rfl rfl fun F => ?_
 by_cases h3 : e.kind = 3
 · simp (disch := omega) only [ir97, ld_ev10, h3, go_sem]
 by_cases h4 : e.kind = 4
 · simp (disch := omega) only [ir97, ld_ev10, h4, go_sem]
 by_cases h5 : e.kind = 5
 · simp (disch := omega) only [ir97, ld_ev10, h5, go_sem]
 · simp (disch := omega) only [ir97, ld_ev10, h3, h4, h5, go_sem]
def cutW (s : List UInt8) (n : Int) : List UInt8 := if n < 0 ∨ 200 < n then [] else cutB s n.toNat
open Classical in
noncomputable def patchW (s : List UInt8) (n : Int) (t : List UInt8) : List UInt8 := if patchBad s n t then [] else patchB s n.toNat t
noncomputable def stepW (e : Evt) (was : List UInt8) : List UInt8 := if e.kind = 5 then e.data else if e.kind = 4 then cutW was e.off else patchW was e.off e.data
noncomputable def bytesD (l : List Evt) : Nat → Idn → List UInt8
 | 0, _ => []
 | n + 1, i => match findL l i with
   | none => []
   | some e => stepW e (match e.base.l with | [] => [] | b :: _ => bytesD l n b)
theorem cutB_len (s : List UInt8) (n : Nat) : (cutB s n).length = n := by
 unfold cutB; split
 · simp; omega
 · simp [zs_len]; omega
theorem patchB_len (s t : List UInt8) (n : Nat) : (patchB s n t).length = max s.length (n + t.length) := by
 unfold patchB; simp [zs_len]; omega
theorem stepW_len {e : Evt} (he : e.data.length ≤ 1000) (was : List UInt8) : (stepW e was).length ≤ 1000 := by
 unfold stepW
 split
 · exact he
 · split
   · unfold cutW; split
     · simp
     · rw [cutB_len]; omega
   · unfold patchW; split
     · simp
     · rename_i h
       unfold patchBad at h
       rw [patchB_len]; omega
theorem bytesD_len {l : List Evt} (h : ∀ e ∈ l, e.data.length ≤ 1000) (n : Nat) (i : Idn) : (bytesD l n i).length ≤ 1000 := by
 cases n with
 | zero => simp [bytesD]
 | succ n =>
   simp only [bytesD]
   split
   · simp
   · rename_i e he
     exact stepW_len (h e (List.mem_of_find?_eq_some he)) _
def Grd (l : List Evt) (rk : Evt → Nat) : Prop := ∀ e ∈ l, e.kind ≠ 5 → ∀ b t, e.base.l = b :: t → ∀ e', findL l b = some e' → rk e' < rk e
theorem okBytes_none {l : List Evt} {i : Idn} (hn : l.length ≤ 1000) (hf : findL l i = none) {x : SV} {f : Bool} {h d} (hx : lents h [x, .vec 2 [.i .i64 i.1, .i .u32 i.2]] = [.pv (.sl f 21 (l.map evE)), .vec 2 [.i .i64 i.1, .i .u32 i.2]]) (hl : lendable [x, .vec 2 [.i .i64 i.1, .i .u32 i.2]] = true) :
 FunOk Tryz.prog 98 [x, .vec 2 [.i .i64 i.1, .i .u32 i.2]] h d (.pv (.s [])) [] := by
 refine fun_scalar mixed fn98 (by simp) hl rfl fun F => ?_
 rw [hx]
 simp (disch := omega) only [ir98, go_sem]
 refine call_with (okFind (l := l) i hn) ?_
 rw [hf]
 (try simp only [bK1, bK2, bK3, bK4, bK5, bK6, bK7, bK8]); simp (disch := omega) only [evE_len, go_sem]
set_option maxHeartbeats 4000000 in
theorem okBytesG {l : List Evt} {rk : Evt → Nat} (hg : Grd l rk) (hn : l.length ≤ 1000) (hev : ∀ e ∈ l, ev e ∧ e.data.length ≤ 1000) : ∀ (n : Nat) (i : Idn), (∀ e, findL l i = some e → rk e < n) → ∀ (x : SV) (f : Bool) (h : Nat → Option Blk) (d : Nat), lents h [x, .vec 2 [.i .i64 i.1, .i .u32 i.2]] = [.pv (.sl f 21 (l.map evE)), .vec 2 [.i .i64 i.1, .i .u32 i.2]] → lendable [x, .vec 2 [.i .i64 i.1, .i .u32 i.2]] = true →
 FunOk Tryz.prog 98 [x, .vec 2 [.i .i64 i.1, .i .u32 i.2]] h d (.pv (.s (bytesD l n i))) []
 | 0, i, hr => by
   intro x f h d hx hl
   have hf : findL l i = none := by
    cases hq : findL l i with
    | none => rfl
    | some e => exact absurd (hr e hq) (Nat.not_lt_zero _)
   exact okBytes_none hn hf hx hl
 | n + 1, i, hr => by
   intro x f h d hx hl
   refine fun_scalar mixed fn98 (by simp) hl rfl fun F => ?_
   rw [hx]
   simp (disch := omega) only [ir98, go_sem]
   refine call_with (okFind (l := l) i hn) ?_
   cases hf : findL l i with
   | none =>
     have eB : bytesD l (n + 1) i = [] := by simp only [bytesD, hf]
     (try simp only [bK1, bK2, bK3, bK4, bK5, bK6, bK7, bK8]); simp (disch := omega) only [eB, evE_len, go_sem]
   | some e =>
     have hm := List.mem_of_find?_eq_some hf
     obtain ⟨he, hd⟩ := hev e hm
     have hpv : e.base.pv = .sl e.base.f e.base.z (e.base.l.map idE) := rfl
     have hel := evE_len e
     by_cases h5 : e.kind = 5
     · have eB : bytesD l (n + 1) i = e.data := by simp only [bytesD, hf, stepW, if_pos h5]
       (try simp only [bK1, bK2, bK3, bK4, bK5, bK6, bK7, bK8]); simp (disch := omega) only [hel, ld_ev10, h5, ld_ev19, eB, go_sem]
     cases hbl : e.base.l with
     | nil =>
       obtain ⟨was, hwas⟩ : ∃ was : List UInt8, was = [] := ⟨_, rfl⟩
       have hwl : was.length ≤ 1000 := by rw [hwas]; simp
       have eB : bytesD l (n + 1) i = stepW e was := by simp only [bytesD, hf, hbl]; rw [hwas]
       (try simp only [bK1, bK2, bK3, bK4, bK5, bK6, bK7, bK8]); simp (disch := omega) only [hel, ld_ev10, h5, ld_ev17, hpv, hbl, List.map_nil, ← hwas, go_sem]
       by_cases h4 : e.kind = 4
       · have eS : stepW e was = cutW was e.off := by unfold stepW; rw [if_neg h5, if_pos h4]
         (try simp only [bK1, bK2, bK3, bK4, bK5, bK6, bK7, bK8]); simp (disch := omega) only [ld_ev10, h4, ld_ev18, go_sem]
         refine call_with (okCutR was e.off hwl) ?_
         by_cases hb : e.off < 0 ∨ 200 < e.off
         · have ec := cutRv_bad (data := was) hb
           have ew : cutW was e.off = [] := if_pos hb
           simp (disch := omega) only [ec, eB, eS, ew, go_sem]
         · have ec := cutRv_ok (data := was) hb
           have ew : cutW was e.off = cutB was e.off.toNat := if_neg hb
           simp (disch := omega) only [ec, eB, eS, ew, go_sem]
       · have eS : stepW e was = patchW was e.off e.data := by unfold stepW; rw [if_neg h5, if_neg h4]
         (try simp only [bK1, bK2, bK3, bK4, bK5, bK6, bK7, bK8]); simp (disch := omega) only [ld_ev10, h4, ld_ev18, ld_ev19, go_sem]
         refine call_with (okPatchR was e.data e.off hd) ?_
         by_cases hb : patchBad was e.off e.data
         · have ec := patchR_bad hb
           have ew : patchW was e.off e.data = [] := if_pos hb
           simp (disch := omega) only [ec, eB, eS, ew, go_sem]
         · have ec := patchR_ok hb
           have ew : patchW was e.off e.data = patchB was e.off.toNat e.data := if_neg hb
           simp (disch := omega) only [ec, eB, eS, ew, go_sem]
     | cons b t =>
       have hok : e.base.z = 2 := he.2.1.resolve_left (by rw [hbl]; simp)
       have h0 : (List.map idE (b :: t))[0]? = some (idE b) := rfl
       have hpos : (0 : Int) < ((t.length : Int) + 1) := by omega
       have hrk := hg e hm h5 b t hbl
       have hre := hr e hf
       (try simp only [bK1, bK2, bK3, bK4, bK5, bK6, bK7, bK8]); simp (disch := omega) only [hel, ld_ev10, h5, ld_ev17, hpv, hbl, hok, List.length_map, h0, ld_idW, go_sem]
       refine call_with (okBytesG hg hn hev n b (fun e' he' => by have := hrk e' he'; omega) _ f _ _ rfl rfl) ?_
       have eB : bytesD l (n + 1) i = stepW e (bytesD l n b) := by simp only [bytesD, hf, hbl]
       have hwl := bytesD_len (fun e he => (hev e he).2) n b (l := l)
       generalize bytesD l n b = was at *
       simp (disch := omega) only [go_sem]
       by_cases h4 : e.kind = 4
       · have eS : stepW e was = cutW was e.off := by unfold stepW; rw [if_neg h5, if_pos h4]
         (try simp only [bK1, bK2, bK3, bK4, bK5, bK6, bK7, bK8]); simp (disch := omega) only [ld_ev10, h4, ld_ev18, go_sem]
         refine call_with (okCutR was e.off hwl) ?_
         by_cases hb : e.off < 0 ∨ 200 < e.off
         · have ec := cutRv_bad (data := was) hb
           have ew : cutW was e.off = [] := if_pos hb
           simp (disch := omega) only [ec, eB, eS, ew, go_sem]
         · have ec := cutRv_ok (data := was) hb
           have ew : cutW was e.off = cutB was e.off.toNat := if_neg hb
           simp (disch := omega) only [ec, eB, eS, ew, go_sem]
       · have eS : stepW e was = patchW was e.off e.data := by unfold stepW; rw [if_neg h5, if_neg h4]
         (try simp only [bK1, bK2, bK3, bK4, bK5, bK6, bK7, bK8]); simp (disch := omega) only [ld_ev10, h4, ld_ev18, ld_ev19, go_sem]
         refine call_with (okPatchR was e.data e.off hd) ?_
         by_cases hb : patchBad was e.off e.data
         · have ec := patchR_bad hb
           have ew : patchW was e.off e.data = [] := if_pos hb
           simp (disch := omega) only [ec, eB, eS, ew, go_sem]
         · have ec := patchR_ok hb
           have ew : patchW was e.off e.data = patchB was e.off.toNat e.data := if_neg hb
           simp (disch := omega) only [ec, eB, eS, ew, go_sem]
def mkB (e : Evt) : Bool := decide (e.kind = 1 ∨ e.kind = 2 ∨ e.kind = 7)
def objI (e : Evt) : Idn := if e.kind = 7 then evObj e else evId e
def goF (f : Evt) (obj id : Idn) : Bool := decide (f.kind = 6 ∨ f.kind = 7) && (decide (evObj f = obj) && decide (id ∈ f.gone.l))
def byG (l : List Evt) (obj id : Idn) : Vc := l.foldl (fun g f => if goF f obj id = true then withV g f.rep f.seq else g) fun _ => 0
theorem byG_snoc (l : List Evt) (f : Evt) (obj id : Idn) : byG (l ++ [f]) obj id = if goF f obj id = true then withV (byG l obj id) f.rep f.seq else byG l obj id := by simp [byG]
def entB (m : List Evt) (e : Evt) : Ent := ⟨evId e, evDir e, e.name, objI e, byG m (objI e) (evId e)⟩
def entsG (l m : List Evt) : List Ent := m.foldl (fun out e => if mkB e = true then putGo out (entB l e) false else out) []
theorem entsG_snoc (l m : List Evt) (e : Evt) : entsG l (m ++ [e]) = if mkB e = true then putGo (entsG l m) (entB l e) false else entsG l m := by simp [entsG]
theorem putGo_len : ∀ (l : List Ent) (x : Ent) (b : Bool), (putGo l x b).length ≤ l.length + 1
 | [], x, b => by unfold putGo; split <;> simp
 | y :: l, x, b => by
   unfold putGo
   split
   · have := putGo_len l x true; simp only [List.length_cons]; omega
   · split
     · have : putGo l x true = putGo l x true := rfl
       have h2 : ∀ l : List Ent, (putGo l x true).length ≤ l.length := fun l => by
        induction l with
        | nil => simp [putGo]
        | cons z l ih => unfold putGo; split <;> simp <;> omega
       have := h2 l
       simp only [List.length_cons]; omega
     · have := putGo_len l x b; simp only [List.length_cons]; omega
theorem entsG_len (l : List Evt) : ∀ (n : Nat) (m : List Evt), m.length = n → (entsG l m).length ≤ n
 | 0, m, h => by obtain rfl := List.eq_nil_of_length_eq_zero h; simp [entsG]
 | n + 1, m, h => by
   have hne : m ≠ [] := fun e => by subst e; simp at h
   have e1 := (List.dropLast_concat_getLast hne).symm
   have h1 := entsG_len l n m.dropLast (by simp [h])
   rw [e1, entsG_snoc]
   split
   · have := putGo_len (entsG l m.dropLast) (entB l (m.getLast hne)) false; omega
   · omega
def stEnt (f : Bool) (l : List Evt) (k : Nat) : FS := mk [(4, .pv (.i .i64 k)), (3, .os 40), (0, .pv (.sl f 21 (l.map evE)))] [(40, some (.row 15 ((entsG l (l.take k)).map entE)))]
def stEnt2 (f : Bool) (l : List Evt) (k : Nat) (e : Evt) (j : Nat) : FS := mk [(7, .pv (.i .i64 j)), (4, .pv (.i .i64 k)), (3, .os 40), (6, .p 6 0), (0, .pv (.sl f 21 (l.map evE)))] [(6, some (.var (.vec 15 (entE (entB (l.take j) e))))), (40, some (.row 15 ((entsG l (l.take k)).map entE)))]
set_option maxHeartbeats 8000000 in
theorem okEntries {x : SV} {f : Bool} {l : List Evt} {h d} (hx : lents h [x] = [.pv (.sl f 21 (l.map evE))]) (hl : lendable [x] = true) (hn : l.length ≤ 1000) (hev : ∀ e ∈ l, ev e) : FunOk Tryz.prog 29 [x] h d (.pv (.sl false 15 ((entsG l l).map entE))) [] := by
 refine fun_rowDF mixed fn29 (by simp) hl (entE_flat _) fun F => ?_
 rw [hx]
 simp (disch := omega) only [ir29, go_sem]
 refine loop_ok mixed (stEnt f l) (fun k => k ≤ l.length) (fun k => l.length - k) 0 (by simp) (wk_nil 3 40 15 rfl (by omega) (weak_mk ?_ ?_)) fun k hk => ?_
 · simp (disch := omega) only [go_sem]
 · simp (disch := omega) only [entsG, List.take_zero, List.foldl_nil, List.map_nil, go_sem]
 by_cases hlt : k < l.length
 · have hx : l[k]? = some l[k] := List.getElem?_eq_getElem hlt
   have he : (l.map evE)[k]? = some (evE l[k]) := by rw [List.getElem?_map, hx]; rfl
   have ht := take_snoc hx
   have hel := evE_len l[k]
   have hsn := entsG_snoc l (l.take k) l[k]
   rw [← ht] at hsn
   generalize l[k] = e at *
   have hlen := entsG_len l _ (l.take k) rfl
   have hlt' : (l.take k).length ≤ 1000 := by simp; omega
   by_cases hmk : mkB e = true
   rotate_left
   · rw [if_neg hmk] at hsn
     have hk3 : ¬ (e.kind = 1 ∨ e.kind = 2 ∨ e.kind = 7) := by simpa [mkB] using hmk
     have n1 : ¬ e.kind = 1 := by omega
     have n2 : ¬ e.kind = 2 := by omega
     have n7 : ¬ e.kind = 7 := by omega
     simp (disch := omega) only [stEnt, List.length_map, he, ld_ev, hel, ld_ev10, n1, n2, n7, go_sem]
     refine loop_next (k + 1) _ _ rfl (by omega) (by omega) ?_ ?_
     · simp (disch := omega) only [go_sem]
     · simp (disch := omega) only [hsn, go_sem]
   rw [if_pos hmk] at hsn
   have hk3 : e.kind = 1 ∨ e.kind = 2 ∨ e.kind = 7 := by simpa [mkB] using hmk
   rcases hk3 with h1 | h2 | h7
   · have hoi : objI e = evId e := if_neg (by omega)
     simp (disch := omega) only [stEnt, List.length_map, he, ld_ev, hel, ld_ev10, h1, ld_evId, ld_evDir, ld_ev15, go_sem]
     refine loop_ok mixed (stEnt2 f l k e) (fun j => j ≤ l.length) (fun j => l.length - j) 0 (by simp) (weak_mk ?_ ?_) fun j hj => ?_
     · simp (disch := omega) only [go_sem]
     · simp (disch := omega) only [entB, byG, List.take_zero, List.foldl_nil, hoi, go_sem]
       exact imp_agg rfl (entE_len _)
     by_cases hjl : j < l.length
     · have hx2 : l[j]? = some l[j] := List.getElem?_eq_getElem hjl
       have he2 : (l.map evE)[j]? = some (evE l[j]) := by rw [List.getElem?_map, hx2]; rfl
       have ht2 := take_snoc hx2
       have hevj := hev _ (List.getElem_mem hjl)
       generalize l[j] = g at *
       have hB : entB (l.take (j + 1)) e = if goF g (objI e) (evId e) = true then { entB (l.take j) e with gone := withV (entB (l.take j) e).gone g.rep g.seq } else entB (l.take j) e := by
        unfold entB; rw [ht2, byG_snoc]; split <;> rfl
       have hob : (entB (l.take j) e).obj = objI e := rfl
       have hid : (entB (l.take j) e).id = evId e := rfl
       generalize hX : entB (l.take j) e = X at *
       by_cases hg : g.kind = 6 ∨ g.kind = 7
       rotate_left
       · have g6 : ¬ g.kind = 6 := fun q => hg (.inl q)
         have g7 : ¬ g.kind = 7 := fun q => hg (.inr q)
         have hgo : ¬ goF g (objI e) (evId e) = true := by unfold goF; simp [hg]
         rw [if_neg hgo] at hB
         simp (disch := omega) only [stEnt2, hX, List.length_map, he2, ld_ev10, g6, g7, go_sem]
         refine loop_next (j + 1) _ _ rfl (by omega) (by omega) ?_ ?_
         · simp (disch := omega) only [go_sem]
         · simp (disch := omega) only [hB, go_sem]
       have hg' := hg
       rcases hg with hg6 | hg7
       · skip
         by_cases ho : evObj g = X.obj
         rotate_left
         · have hp := peqI_f ho
           have hgo : ¬ goF g (objI e) (evId e) = true := by
            rw [hob] at ho; unfold goF; simp [ho]
           rw [if_neg hgo] at hB
           simp (disch := omega) only [stEnt2, hX, List.length_map, he2, ld_ev10, hg6, ld_evObj, ld_entObj, fits_id, fitsId2, hp, go_sem]
           refine loop_next (j + 1) _ _ rfl (by omega) (by omega) ?_ ?_
           · simp (disch := omega) only [go_sem]
           · simp (disch := omega) only [hB, go_sem]
         have hp := peqI_t ho
         have hpv : g.gone.pv = .sl g.gone.f g.gone.z (g.gone.l.map idE) := rfl
         simp (disch := omega) only [stEnt2, hX, List.length_map, he2, ld_ev10, hg6, ld_evObj, ld_entObj, fits_id, fitsId2, hp, ld_ev16, ld_entId, go_sem]
         refine call_with (okIn12 g.gone X.id hevj.1 hevj.2.2.1) ?_
         by_cases hin : X.id ∈ g.gone.l
         · have hgo : goF g (objI e) (evId e) = true := by
            rw [hob] at ho; rw [hid] at hin; unfold goF; simp [hg', ho, hin]
           rw [if_pos hgo] at hB
           have hsp := splice_by X (withV X.gone g.rep g.seq)
           have hvl := vE_length (withV X.gone g.rep g.seq)
           simp (disch := omega) only [hin, ld_entBy, List.length_map, he2, ld_evId, go_sem]
           refine call_with (okWithR' _ _ _) ?_
           simp (disch := omega) only [hsp, hvl, go_sem]
           refine loop_next (j + 1) _ _ rfl (by omega) (by omega) ?_ ?_
           · simp (disch := omega) only [go_sem]
           · simp (disch := omega) only [hB, go_sem]
         · have hgo : ¬ goF g (objI e) (evId e) = true := by
            rw [hid] at hin; unfold goF; simp [hin]
           rw [if_neg hgo] at hB
           simp (disch := omega) only [hin, go_sem]
           refine loop_next (j + 1) _ _ rfl (by omega) (by omega) ?_ ?_
           · simp (disch := omega) only [go_sem]
           · simp (disch := omega) only [hB, go_sem]
       · have g6 : ¬ g.kind = 6 := by omega
         by_cases ho : evObj g = X.obj
         rotate_left
         · have hp := peqI_f ho
           have hgo : ¬ goF g (objI e) (evId e) = true := by
            rw [hob] at ho; unfold goF; simp [ho]
           rw [if_neg hgo] at hB
           simp (disch := omega) only [stEnt2, hX, List.length_map, he2, ld_ev10, g6, hg7, ld_evObj, ld_entObj, fits_id, fitsId2, hp, go_sem]
           refine loop_next (j + 1) _ _ rfl (by omega) (by omega) ?_ ?_
           · simp (disch := omega) only [go_sem]
           · simp (disch := omega) only [hB, go_sem]
         have hp := peqI_t ho
         have hpv : g.gone.pv = .sl g.gone.f g.gone.z (g.gone.l.map idE) := rfl
         simp (disch := omega) only [stEnt2, hX, List.length_map, he2, ld_ev10, g6, hg7, ld_evObj, ld_entObj, fits_id, fitsId2, hp, ld_ev16, ld_entId, go_sem]
         refine call_with (okIn12 g.gone X.id hevj.1 hevj.2.2.1) ?_
         by_cases hin : X.id ∈ g.gone.l
         · have hgo : goF g (objI e) (evId e) = true := by
            rw [hob] at ho; rw [hid] at hin; unfold goF; simp [hg', ho, hin]
           rw [if_pos hgo] at hB
           have hsp := splice_by X (withV X.gone g.rep g.seq)
           have hvl := vE_length (withV X.gone g.rep g.seq)
           simp (disch := omega) only [hin, ld_entBy, List.length_map, he2, ld_evId, go_sem]
           refine call_with (okWithR' _ _ _) ?_
           simp (disch := omega) only [hsp, hvl, go_sem]
           refine loop_next (j + 1) _ _ rfl (by omega) (by omega) ?_ ?_
           · simp (disch := omega) only [go_sem]
           · simp (disch := omega) only [hB, go_sem]
         · have hgo : ¬ goF g (objI e) (evId e) = true := by
            rw [hid] at hin; unfold goF; simp [hin]
           rw [if_neg hgo] at hB
           simp (disch := omega) only [hin, go_sem]
           refine loop_next (j + 1) _ _ rfl (by omega) (by omega) ?_ ?_
           · simp (disch := omega) only [go_sem]
           · simp (disch := omega) only [hB, go_sem]
     · obtain rfl : j = l.length := by omega
       have htk : l.take l.length = l := List.take_length
       simp (disch := omega) only [stEnt2, List.length_map, htk, ld_ent, go_sem]
       refine call_with (okPutRE (l := entsG l (l.take k)) (entB l e) rfl rfl (by omega)) ?_
       simp (disch := omega) only [go_sem]
       refine ⟨k + 1, by omega, by omega, wk_frz 40 rfl (wk_ren 99 40 (by decide) rfl (weak_mk ?_ ?_))⟩
       · simp (disch := omega) only [go_sem]
       · simp (disch := omega) only [hsn, go_sem]
   · have hoi : objI e = evId e := if_neg (by omega)
     have n1 : ¬ e.kind = 1 := by omega
     simp (disch := omega) only [stEnt, List.length_map, he, ld_ev, hel, ld_ev10, n1, h2, ld_evId, ld_evDir, ld_ev15, go_sem]
     refine loop_ok mixed (stEnt2 f l k e) (fun j => j ≤ l.length) (fun j => l.length - j) 0 (by simp) (weak_mk ?_ ?_) fun j hj => ?_
     · simp (disch := omega) only [go_sem]
     · simp (disch := omega) only [entB, byG, List.take_zero, List.foldl_nil, hoi, go_sem]
       exact imp_agg rfl (entE_len _)
     by_cases hjl : j < l.length
     · have hx2 : l[j]? = some l[j] := List.getElem?_eq_getElem hjl
       have he2 : (l.map evE)[j]? = some (evE l[j]) := by rw [List.getElem?_map, hx2]; rfl
       have ht2 := take_snoc hx2
       have hevj := hev _ (List.getElem_mem hjl)
       generalize l[j] = g at *
       have hB : entB (l.take (j + 1)) e = if goF g (objI e) (evId e) = true then { entB (l.take j) e with gone := withV (entB (l.take j) e).gone g.rep g.seq } else entB (l.take j) e := by
        unfold entB; rw [ht2, byG_snoc]; split <;> rfl
       have hob : (entB (l.take j) e).obj = objI e := rfl
       have hid : (entB (l.take j) e).id = evId e := rfl
       generalize hX : entB (l.take j) e = X at *
       by_cases hg : g.kind = 6 ∨ g.kind = 7
       rotate_left
       · have g6 : ¬ g.kind = 6 := fun q => hg (.inl q)
         have g7 : ¬ g.kind = 7 := fun q => hg (.inr q)
         have hgo : ¬ goF g (objI e) (evId e) = true := by unfold goF; simp [hg]
         rw [if_neg hgo] at hB
         simp (disch := omega) only [stEnt2, hX, List.length_map, he2, ld_ev10, g6, g7, go_sem]
         refine loop_next (j + 1) _ _ rfl (by omega) (by omega) ?_ ?_
         · simp (disch := omega) only [go_sem]
         · simp (disch := omega) only [hB, go_sem]
       have hg' := hg
       rcases hg with hg6 | hg7
       · skip
         by_cases ho : evObj g = X.obj
         rotate_left
         · have hp := peqI_f ho
           have hgo : ¬ goF g (objI e) (evId e) = true := by
            rw [hob] at ho; unfold goF; simp [ho]
           rw [if_neg hgo] at hB
           simp (disch := omega) only [stEnt2, hX, List.length_map, he2, ld_ev10, hg6, ld_evObj, ld_entObj, fits_id, fitsId2, hp, go_sem]
           refine loop_next (j + 1) _ _ rfl (by omega) (by omega) ?_ ?_
           · simp (disch := omega) only [go_sem]
           · simp (disch := omega) only [hB, go_sem]
         have hp := peqI_t ho
         have hpv : g.gone.pv = .sl g.gone.f g.gone.z (g.gone.l.map idE) := rfl
         simp (disch := omega) only [stEnt2, hX, List.length_map, he2, ld_ev10, hg6, ld_evObj, ld_entObj, fits_id, fitsId2, hp, ld_ev16, ld_entId, go_sem]
         refine call_with (okIn12 g.gone X.id hevj.1 hevj.2.2.1) ?_
         by_cases hin : X.id ∈ g.gone.l
         · have hgo : goF g (objI e) (evId e) = true := by
            rw [hob] at ho; rw [hid] at hin; unfold goF; simp [hg', ho, hin]
           rw [if_pos hgo] at hB
           have hsp := splice_by X (withV X.gone g.rep g.seq)
           have hvl := vE_length (withV X.gone g.rep g.seq)
           simp (disch := omega) only [hin, ld_entBy, List.length_map, he2, ld_evId, go_sem]
           refine call_with (okWithR' _ _ _) ?_
           simp (disch := omega) only [hsp, hvl, go_sem]
           refine loop_next (j + 1) _ _ rfl (by omega) (by omega) ?_ ?_
           · simp (disch := omega) only [go_sem]
           · simp (disch := omega) only [hB, go_sem]
         · have hgo : ¬ goF g (objI e) (evId e) = true := by
            rw [hid] at hin; unfold goF; simp [hin]
           rw [if_neg hgo] at hB
           simp (disch := omega) only [hin, go_sem]
           refine loop_next (j + 1) _ _ rfl (by omega) (by omega) ?_ ?_
           · simp (disch := omega) only [go_sem]
           · simp (disch := omega) only [hB, go_sem]
       · have g6 : ¬ g.kind = 6 := by omega
         by_cases ho : evObj g = X.obj
         rotate_left
         · have hp := peqI_f ho
           have hgo : ¬ goF g (objI e) (evId e) = true := by
            rw [hob] at ho; unfold goF; simp [ho]
           rw [if_neg hgo] at hB
           simp (disch := omega) only [stEnt2, hX, List.length_map, he2, ld_ev10, g6, hg7, ld_evObj, ld_entObj, fits_id, fitsId2, hp, go_sem]
           refine loop_next (j + 1) _ _ rfl (by omega) (by omega) ?_ ?_
           · simp (disch := omega) only [go_sem]
           · simp (disch := omega) only [hB, go_sem]
         have hp := peqI_t ho
         have hpv : g.gone.pv = .sl g.gone.f g.gone.z (g.gone.l.map idE) := rfl
         simp (disch := omega) only [stEnt2, hX, List.length_map, he2, ld_ev10, g6, hg7, ld_evObj, ld_entObj, fits_id, fitsId2, hp, ld_ev16, ld_entId, go_sem]
         refine call_with (okIn12 g.gone X.id hevj.1 hevj.2.2.1) ?_
         by_cases hin : X.id ∈ g.gone.l
         · have hgo : goF g (objI e) (evId e) = true := by
            rw [hob] at ho; rw [hid] at hin; unfold goF; simp [hg', ho, hin]
           rw [if_pos hgo] at hB
           have hsp := splice_by X (withV X.gone g.rep g.seq)
           have hvl := vE_length (withV X.gone g.rep g.seq)
           simp (disch := omega) only [hin, ld_entBy, List.length_map, he2, ld_evId, go_sem]
           refine call_with (okWithR' _ _ _) ?_
           simp (disch := omega) only [hsp, hvl, go_sem]
           refine loop_next (j + 1) _ _ rfl (by omega) (by omega) ?_ ?_
           · simp (disch := omega) only [go_sem]
           · simp (disch := omega) only [hB, go_sem]
         · have hgo : ¬ goF g (objI e) (evId e) = true := by
            rw [hid] at hin; unfold goF; simp [hin]
           rw [if_neg hgo] at hB
           simp (disch := omega) only [hin, go_sem]
           refine loop_next (j + 1) _ _ rfl (by omega) (by omega) ?_ ?_
           · simp (disch := omega) only [go_sem]
           · simp (disch := omega) only [hB, go_sem]
     · obtain rfl : j = l.length := by omega
       have htk : l.take l.length = l := List.take_length
       simp (disch := omega) only [stEnt2, List.length_map, htk, ld_ent, go_sem]
       refine call_with (okPutRE (l := entsG l (l.take k)) (entB l e) rfl rfl (by omega)) ?_
       simp (disch := omega) only [go_sem]
       refine ⟨k + 1, by omega, by omega, wk_frz 40 rfl (wk_ren 99 40 (by decide) rfl (weak_mk ?_ ?_))⟩
       · simp (disch := omega) only [go_sem]
       · simp (disch := omega) only [hsn, go_sem]
   · have hoi : objI e = evObj e := if_pos h7
     have n1 : ¬ e.kind = 1 := by omega
     have n2 : ¬ e.kind = 2 := by omega
     simp (disch := omega) only [stEnt, List.length_map, he, ld_ev, hel, ld_ev10, n1, n2, h7, ld_evId, ld_evDir, ld_ev15, ld_evObj, go_sem]
     refine loop_ok mixed (stEnt2 f l k e) (fun j => j ≤ l.length) (fun j => l.length - j) 0 (by simp) (weak_mk ?_ ?_) fun j hj => ?_
     · simp (disch := omega) only [go_sem]
     · simp (disch := omega) only [entB, byG, List.take_zero, List.foldl_nil, hoi, go_sem]
       exact imp_agg rfl (entE_len _)
     by_cases hjl : j < l.length
     · have hx2 : l[j]? = some l[j] := List.getElem?_eq_getElem hjl
       have he2 : (l.map evE)[j]? = some (evE l[j]) := by rw [List.getElem?_map, hx2]; rfl
       have ht2 := take_snoc hx2
       have hevj := hev _ (List.getElem_mem hjl)
       generalize l[j] = g at *
       have hB : entB (l.take (j + 1)) e = if goF g (objI e) (evId e) = true then { entB (l.take j) e with gone := withV (entB (l.take j) e).gone g.rep g.seq } else entB (l.take j) e := by
        unfold entB; rw [ht2, byG_snoc]; split <;> rfl
       have hob : (entB (l.take j) e).obj = objI e := rfl
       have hid : (entB (l.take j) e).id = evId e := rfl
       generalize hX : entB (l.take j) e = X at *
       by_cases hg : g.kind = 6 ∨ g.kind = 7
       rotate_left
       · have g6 : ¬ g.kind = 6 := fun q => hg (.inl q)
         have g7 : ¬ g.kind = 7 := fun q => hg (.inr q)
         have hgo : ¬ goF g (objI e) (evId e) = true := by unfold goF; simp [hg]
         rw [if_neg hgo] at hB
         simp (disch := omega) only [stEnt2, hX, List.length_map, he2, ld_ev10, g6, g7, go_sem]
         refine loop_next (j + 1) _ _ rfl (by omega) (by omega) ?_ ?_
         · simp (disch := omega) only [go_sem]
         · simp (disch := omega) only [hB, go_sem]
       have hg' := hg
       rcases hg with hg6 | hg7
       · skip
         by_cases ho : evObj g = X.obj
         rotate_left
         · have hp := peqI_f ho
           have hgo : ¬ goF g (objI e) (evId e) = true := by
            rw [hob] at ho; unfold goF; simp [ho]
           rw [if_neg hgo] at hB
           simp (disch := omega) only [stEnt2, hX, List.length_map, he2, ld_ev10, hg6, ld_evObj, ld_entObj, fits_id, fitsId2, hp, go_sem]
           refine loop_next (j + 1) _ _ rfl (by omega) (by omega) ?_ ?_
           · simp (disch := omega) only [go_sem]
           · simp (disch := omega) only [hB, go_sem]
         have hp := peqI_t ho
         have hpv : g.gone.pv = .sl g.gone.f g.gone.z (g.gone.l.map idE) := rfl
         simp (disch := omega) only [stEnt2, hX, List.length_map, he2, ld_ev10, hg6, ld_evObj, ld_entObj, fits_id, fitsId2, hp, ld_ev16, ld_entId, go_sem]
         refine call_with (okIn12 g.gone X.id hevj.1 hevj.2.2.1) ?_
         by_cases hin : X.id ∈ g.gone.l
         · have hgo : goF g (objI e) (evId e) = true := by
            rw [hob] at ho; rw [hid] at hin; unfold goF; simp [hg', ho, hin]
           rw [if_pos hgo] at hB
           have hsp := splice_by X (withV X.gone g.rep g.seq)
           have hvl := vE_length (withV X.gone g.rep g.seq)
           simp (disch := omega) only [hin, ld_entBy, List.length_map, he2, ld_evId, go_sem]
           refine call_with (okWithR' _ _ _) ?_
           simp (disch := omega) only [hsp, hvl, go_sem]
           refine loop_next (j + 1) _ _ rfl (by omega) (by omega) ?_ ?_
           · simp (disch := omega) only [go_sem]
           · simp (disch := omega) only [hB, go_sem]
         · have hgo : ¬ goF g (objI e) (evId e) = true := by
            rw [hid] at hin; unfold goF; simp [hin]
           rw [if_neg hgo] at hB
           simp (disch := omega) only [hin, go_sem]
           refine loop_next (j + 1) _ _ rfl (by omega) (by omega) ?_ ?_
           · simp (disch := omega) only [go_sem]
           · simp (disch := omega) only [hB, go_sem]
       · have g6 : ¬ g.kind = 6 := by omega
         by_cases ho : evObj g = X.obj
         rotate_left
         · have hp := peqI_f ho
           have hgo : ¬ goF g (objI e) (evId e) = true := by
            rw [hob] at ho; unfold goF; simp [ho]
           rw [if_neg hgo] at hB
           simp (disch := omega) only [stEnt2, hX, List.length_map, he2, ld_ev10, g6, hg7, ld_evObj, ld_entObj, fits_id, fitsId2, hp, go_sem]
           refine loop_next (j + 1) _ _ rfl (by omega) (by omega) ?_ ?_
           · simp (disch := omega) only [go_sem]
           · simp (disch := omega) only [hB, go_sem]
         have hp := peqI_t ho
         have hpv : g.gone.pv = .sl g.gone.f g.gone.z (g.gone.l.map idE) := rfl
         simp (disch := omega) only [stEnt2, hX, List.length_map, he2, ld_ev10, g6, hg7, ld_evObj, ld_entObj, fits_id, fitsId2, hp, ld_ev16, ld_entId, go_sem]
         refine call_with (okIn12 g.gone X.id hevj.1 hevj.2.2.1) ?_
         by_cases hin : X.id ∈ g.gone.l
         · have hgo : goF g (objI e) (evId e) = true := by
            rw [hob] at ho; rw [hid] at hin; unfold goF; simp [hg', ho, hin]
           rw [if_pos hgo] at hB
           have hsp := splice_by X (withV X.gone g.rep g.seq)
           have hvl := vE_length (withV X.gone g.rep g.seq)
           simp (disch := omega) only [hin, ld_entBy, List.length_map, he2, ld_evId, go_sem]
           refine call_with (okWithR' _ _ _) ?_
           simp (disch := omega) only [hsp, hvl, go_sem]
           refine loop_next (j + 1) _ _ rfl (by omega) (by omega) ?_ ?_
           · simp (disch := omega) only [go_sem]
           · simp (disch := omega) only [hB, go_sem]
         · have hgo : ¬ goF g (objI e) (evId e) = true := by
            rw [hid] at hin; unfold goF; simp [hin]
           rw [if_neg hgo] at hB
           simp (disch := omega) only [hin, go_sem]
           refine loop_next (j + 1) _ _ rfl (by omega) (by omega) ?_ ?_
           · simp (disch := omega) only [go_sem]
           · simp (disch := omega) only [hB, go_sem]
     · obtain rfl : j = l.length := by omega
       have htk : l.take l.length = l := List.take_length
       simp (disch := omega) only [stEnt2, List.length_map, htk, ld_ent, go_sem]
       refine call_with (okPutRE (l := entsG l (l.take k)) (entB l e) rfl rfl (by omega)) ?_
       simp (disch := omega) only [go_sem]
       refine ⟨k + 1, by omega, by omega, wk_frz 40 rfl (wk_ren 99 40 (by decide) rfl (weak_mk ?_ ?_))⟩
       · simp (disch := omega) only [go_sem]
       · simp (disch := omega) only [hsn, go_sem]
 · obtain rfl : k = l.length := by omega
   have htk : l.take l.length = l := List.take_length
   simp (disch := omega) only [stEnt, List.length_map, htk, go_sem]
theorem okAddR {x y : SV} {f g : Bool} {l : List Ver} {bs : List Idn} {v : Ver} {h d} (hx : lents h [x, y, .vec 11 (verE v)] = [.pv (.sl f 11 (l.map verE)), .pv (.sl g 2 (bs.map idE)), .vec 11 (verE v)]) (hl : lendable [x, y, .vec 11 (verE v)] = true)
 (hs : SortedV l) (hn : l.length ≤ 900) (hbn : bs.length ≤ 900) (hm : ¬ missing l bs) (ho : findV l v.rep v.seq = none) :
 FunOk Tryz.prog 99 [x, y, .vec 11 (verE v)] h d (.tup [.os d, .pv (.i .i64 0)]) [.new d (.row 11 ((addLV l bs v).map verE))] := by
 refine fun_row2 mixed fn99 (by simp) hl (.inr (verE_flat _)) rfl fun F => ?_
 rw [hx]
 exact addWalkR hs hn hbn (fun h => absurd h hm) (fun _ h => by rw [ho] at h; cases h) (fun _ _ g n hg => ⟨n, rfl, hg⟩)
def wrB (e : Evt) : Bool := decide (e.kind = 3 ∨ e.kind = 4 ∨ e.kind = 5)
def gvF (g : Evt) (obj id : Idn) : Bool := wrB g && (decide (evObj g = obj) && decide (id ∈ g.base.l))
def gvG (l : List Evt) (obj id : Idn) : Vc := l.foldl (fun a g => if gvF g obj id = true then withV a g.rep g.seq else a) fun _ => 0
theorem gvG_snoc (l : List Evt) (g : Evt) (obj id : Idn) : gvG (l ++ [g]) obj id = if gvF g obj id = true then withV (gvG l obj id) g.rep g.seq else gvG l obj id := by simp [gvG]
noncomputable def verB (l m : List Evt) (e : Evt) : Ver := ⟨e.rep, e.seq, bytesD l l.length (evId e), gvG m (evObj e) (evId e)⟩
noncomputable def versG (l : List Evt) (obj : Idn) (m : List Evt) : List Ver := m.foldl (fun out e => if wrB e = true ∧ evObj e = obj then addLV out [] (verB l l e) else out) []
theorem versG_snoc (l : List Evt) (obj : Idn) (m : List Evt) (e : Evt) : versG l obj (m ++ [e]) = if wrB e = true ∧ evObj e = obj then addLV (versG l obj m) [] (verB l l e) else versG l obj m := by simp [versG]
theorem mem_addLV {l : List Ver} {v x : Ver} : x ∈ addLV l [] v ↔ x = v ∨ x ∈ l := by
 unfold addLV; rw [markL_nil]
 simp only [List.mem_append, List.mem_cons]
 have : x ∈ l ↔ x ∈ l.take (atL l v.rep v.seq 0).1 ∨ x ∈ l.drop (atL l v.rep v.seq 0).1 := by
  rw [← List.mem_append, List.take_append_drop]
 rw [this]
 constructor
 · rintro (h | h | h)
   · exact .inr (.inl h)
   · exact .inl h
   · exact .inr (.inr h)
 · rintro (h | h | h)
   · exact .inr (.inl h)
   · exact .inl h
   · exact .inr (.inr h)
theorem addLV_len (l : List Ver) (v : Ver) : (addLV l [] v).length = l.length + 1 := by
 unfold addLV; rw [markL_nil]
 simp only [List.length_append, List.length_take, List.length_cons, List.length_drop]; omega
theorem addLV_sorted {l : List Ver} {v : Ver} (hs : SortedV l) (hn : findV l v.rep v.seq = none) : SortedV (addLV l [] v) := by
 unfold addLV; rw [markL_nil]
 have hfalse : atL l v.rep v.seq 0 = ((atL l v.rep v.seq 0).1, false) := by
  rcases h : atL l v.rep v.seq 0 with ⟨i, b⟩
  cases b with
  | false => rfl
  | true =>
    obtain ⟨_, u, _, _, h4⟩ := atL_true h
    rw [hn] at h4; cases h4
 obtain ⟨_, _, _, _, h5, h6⟩ := atL_false hs hfalse
 generalize (atL l v.rep v.seq 0).1 = p at *
 simp only [Nat.sub_zero] at h5 h6
 refine List.pairwise_append.2 ⟨hs.sublist (List.take_sublist _ _), List.pairwise_cons.2 ⟨fun u hu => h6 u hu, hs.sublist (List.drop_sublist _ _)⟩, fun a ha b hb => ?_⟩
 rcases List.mem_cons.1 hb with rfl | hb
 · exact h5 a ha
 · have := h5 a ha
   exact idLt_trans this (h6 b hb)
theorem versG_mem {l : List Evt} {obj : Idn} {v : Ver} : ∀ (n : Nat) (m : List Evt), m.length = n → (v ∈ versG l obj m ↔ ∃ e ∈ m, (wrB e = true ∧ evObj e = obj) ∧ v = verB l l e)
 | 0, m, h => by obtain rfl := List.eq_nil_of_length_eq_zero h; simp [versG]
 | n + 1, m, h => by
   have hne : m ≠ [] := fun e => by subst e; simp at h
   have e1 := (List.dropLast_concat_getLast hne).symm
   have ih := versG_mem (l := l) (obj := obj) (v := v) n m.dropLast (by simp [h])
   rw [e1, versG_snoc]
   generalize m.getLast hne = e at *
   generalize m.dropLast = m' at *
   split
   · rename_i hc
     rw [mem_addLV, ih]
     constructor
     · rintro (rfl | ⟨f, h1, h2⟩)
       · exact ⟨e, by simp, hc, rfl⟩
       · exact ⟨f, by simp [h1], h2⟩
     · rintro ⟨f, h1, h2, h3⟩
       rcases List.mem_append.1 h1 with h1 | h1
       · exact .inr ⟨f, h1, h2, h3⟩
       · rw [List.mem_singleton] at h1; subst h1; exact .inl h3
   · rename_i hc
     rw [ih]
     constructor
     · rintro ⟨f, h1, h2⟩; exact ⟨f, by simp [h1], h2⟩
     · rintro ⟨f, h1, h2, h3⟩
       rcases List.mem_append.1 h1 with h1 | h1
       · exact ⟨f, h1, h2, h3⟩
       · rw [List.mem_singleton] at h1; subst h1; exact absurd h2 hc
def NodE (l : List Evt) : Prop := (l.map evId).Nodup
theorem versG_new {l m : List Evt} {obj : Idn} {e : Evt} (hn : NodE (m ++ [e])) : findV (versG l obj m) e.rep e.seq = none := by
 rw [findV_none]
 intro v hv ⟨h1, h2⟩
 obtain ⟨f, hf, _, rfl⟩ := (versG_mem m.length m rfl).1 hv
 have : evId f = evId e := Prod.ext h1 h2
 unfold NodE at hn
 rw [List.map_append, List.nodup_append] at hn
 exact hn.2.2 (evId f) (List.mem_map_of_mem hf) (evId e) (by simp) this
theorem NodE.take {l : List Evt} (h : NodE l) (k : Nat) : NodE (l.take k) := by
 unfold NodE at *; rw [List.map_take]; exact h.sublist (List.take_sublist _ _)
theorem versG_sorted {l : List Evt} {obj : Idn} : ∀ (n : Nat) (m : List Evt), m.length = n → NodE m → SortedV (versG l obj m) ∧ (versG l obj m).length ≤ n
 | 0, m, h, _ => by obtain rfl := List.eq_nil_of_length_eq_zero h; exact ⟨List.Pairwise.nil, by simp [versG]⟩
 | n + 1, m, h, hn => by
   have hne : m ≠ [] := fun e => by subst e; simp at h
   have e1 := (List.dropLast_concat_getLast hne).symm
   have hn' : NodE m.dropLast := by unfold NodE at *; rw [List.map_dropLast]; exact hn.sublist (List.dropLast_sublist _)
   obtain ⟨h1, h2⟩ := versG_sorted (l := l) (obj := obj) n m.dropLast (by simp [h]) hn'
   rw [e1] at hn ⊢
   rw [versG_snoc]
   split
   · exact ⟨addLV_sorted h1 (versG_new hn), by rw [addLV_len]; omega⟩
   · exact ⟨h1, by omega⟩
theorem okAddR0 {l : List Ver} {v : Ver} (hs : SortedV l) (hn : l.length ≤ 900) (ho : findV l v.rep v.seq = none) {h d} (hh : h 40 = some (.row 11 (l.map verE))) :
 FunOk Tryz.prog 99 [.os 40, .pv (.sl true 0 []), .vec 11 (verE v)] h d (.tup [.os d, .pv (.i .i64 0)]) [.new d (.row 11 ((addLV l [] v).map verE))] := by
 refine FunOk.imp (args' := [.os 40, .pv (.sl true 2 []), .vec 11 (verE v)]) ?_ ⟨Imp.refl _, imp_pv (pimp_sl id (.inl rfl) (.refl _)), Imp.refl _, trivial⟩ (by simp [tops, tn])
 exact okAddR (f := false) (g := true) (l := l) (bs := []) (by simp only [lents, lent, hh]; rfl) rfl hs hn (by simp) (fun ⟨b, hb, _⟩ => by simp at hb) ho
structure EvsOk (l : List Evt) (rk : Evt → Nat) : Prop where
 len : l.length ≤ 400
 nod : NodE l
 ev : ∀ e ∈ l, ev e ∧ e.data.length ≤ 1000
 grd : Grd l rk
 rk : ∀ e ∈ l, rk e < l.length
noncomputable def stVr (f : Bool) (l : List Evt) (o : Idn) (k : Nat) : FS := mk [(6, .pv (.i .i64 k)), (5, .os 40), (0, .pv (.sl f 21 (l.map evE))), (3, .p 3 0)] [(3, some (.var (.vec 2 [.i .i64 o.1, .i .u32 o.2]))), (40, some (.row 11 ((versG l o (l.take k)).map verE)))]
noncomputable def stVr2 (f : Bool) (l : List Evt) (o : Idn) (k : Nat) (e : Evt) (j : Nat) : FS := mk [(8, .pv (.i .i64 j)), (6, .pv (.i .i64 k)), (5, .os 40), (7, .p 7 0), (0, .pv (.sl f 21 (l.map evE))), (3, .p 3 0)] [(7, some (.var (.vec 11 (verE (verB l (l.take j) e))))), (3, some (.var (.vec 2 [.i .i64 o.1, .i .u32 o.2]))), (40, some (.row 11 ((versG l o (l.take k)).map verE)))]
theorem ver_imp' (r : Int) (q : Nat) (s : List UInt8) (g : Vc) : Imp (.agg [.vec 2 [.i .i64 r, .i .u32 q], .pv (.s s), .vec 8 (vE g)]) (.vec 11 (verE ⟨r, q, s, g⟩)) := imp_agg (by rfl) (verE_len _)
set_option maxHeartbeats 8000000 in
theorem okVersions {x : SV} {f : Bool} {l : List Evt} {rk : Evt → Nat} (o : Idn) {h d} (hx : lents h [x, .vec 2 [.i .i64 o.1, .i .u32 o.2]] = [.pv (.sl f 21 (l.map evE)), .vec 2 [.i .i64 o.1, .i .u32 o.2]]) (hl : lendable [x, .vec 2 [.i .i64 o.1, .i .u32 o.2]] = true) (hE : EvsOk l rk) : FunOk Tryz.prog 68 [x, .vec 2 [.i .i64 o.1, .i .u32 o.2]] h d (.pv (.sl false 11 ((versG l o l).map verE))) [] := by
 refine fun_rowDF mixed fn68 (by simp) hl (verE_flat _) fun F => ?_
 rw [hx]
 have hn := hE.len
 simp (disch := omega) only [ir68, go_sem]
 refine loop_ok mixed (stVr f l o) (fun k => k ≤ l.length) (fun k => l.length - k) 0 (by simp) (wk_nil 5 40 11 rfl (by omega) (weak_mk ?_ ?_)) fun k hk => ?_
 · simp (disch := omega) only [go_sem]
 · simp (disch := omega) only [versG, List.take_zero, List.foldl_nil, List.map_nil, go_sem]
 by_cases hlt : k < l.length
 · have hx : l[k]? = some l[k] := List.getElem?_eq_getElem hlt
   have he : (l.map evE)[k]? = some (evE l[k]) := by rw [List.getElem?_map, hx]; rfl
   have ht := take_snoc hx
   have hsn := versG_snoc l o (l.take k) l[k]
   have hnd := hE.nod.take (k + 1)
   rw [ht] at hnd
   rw [← ht] at hsn
   have hmem := List.getElem_mem hlt
   generalize l[k] = e at *
   obtain ⟨hso, hle⟩ := versG_sorted (l := l) (obj := o) _ (l.take k) rfl (hE.nod.take k)
   have hle' : (l.take k).length ≤ 400 := by simp; omega
   have hnew := versG_new (l := l) (obj := o) hnd
   have hwb : wrB e = decide (e.kind = 3 ∨ e.kind = 4 ∨ e.kind = 5) := rfl
   by_cases hw : wrB e = true
   rotate_left
   · rw [if_neg (fun q => hw q.1)] at hsn
     have hw' : wrB e = false := by simpa using hw
     simp (disch := omega) only [stVr, List.length_map, he, ld_ev, go_sem]
     refine call_with (okWrites e) ?_
     rw [← hwb, hw']
     simp (disch := omega) only [go_sem]
     refine loop_next (k + 1) _ _ rfl (by omega) (by omega) ?_ ?_
     · simp (disch := omega) only [go_sem]
     · simp (disch := omega) only [hsn, go_sem]
   by_cases ho : evObj e = o
   rotate_left
   · rw [if_neg (fun q => ho q.2)] at hsn
     have hp := peqI_f ho
     simp (disch := omega) only [stVr, List.length_map, he, ld_ev, go_sem]
     refine call_with (okWrites e) ?_
     rw [← hwb, hw]
     simp (disch := omega) only [he, ld_evObj, fits_id, fitsId2, hp, List.length_map, go_sem]
     refine loop_next (k + 1) _ _ rfl (by omega) (by omega) ?_ ?_
     · simp (disch := omega) only [go_sem]
     · simp (disch := omega) only [hsn, go_sem]
   rw [if_pos ⟨hw, ho⟩] at hsn
   have hp := peqI_t ho
   simp (disch := omega) only [stVr, List.length_map, he, ld_ev, go_sem]
   refine call_with (okWrites e) ?_
   rw [← hwb, hw]
   simp (disch := omega) only [he, ld_evObj, fits_id, fitsId2, hp, List.length_map, ld_evId, go_sem]
   refine call_with (okBytesG (rk := rk) hE.grd (by omega) hE.ev l.length (evId e) (fun e' he' => hE.rk e' (List.mem_of_find?_eq_some he')) _ f _ _ rfl rfl) ?_
   simp (disch := omega) only [go_sem]
   refine loop_ok mixed (stVr2 f l o k e) (fun j => j ≤ l.length) (fun j => l.length - j) 0 (by simp) (weak_mk ?_ ?_) fun j hj => ?_
   · simp (disch := omega) only [go_sem]
   · simp (disch := omega) only [verB, gvG, List.take_zero, List.foldl_nil, go_sem]
     exact ver_imp' _ _ _ _
   by_cases hjl : j < l.length
   · have hx2 : l[j]? = some l[j] := List.getElem?_eq_getElem hjl
     have he2 : (l.map evE)[j]? = some (evE l[j]) := by rw [List.getElem?_map, hx2]; rfl
     have ht2 := take_snoc hx2
     have hevj := (hE.ev _ (List.getElem_mem hjl)).1
     generalize l[j] = g at *
     have hB : verB l (l.take (j + 1)) e = if gvF g (evObj e) (evId e) = true then { verB l (l.take j) e with gone := withV (verB l (l.take j) e).gone g.rep g.seq } else verB l (l.take j) e := by
      unfold verB; rw [ht2, gvG_snoc]; split <;> rfl
     have hid : ((verB l (l.take j) e).rep, (verB l (l.take j) e).seq) = evId e := rfl
     generalize hX : verB l (l.take j) e = X at *
     have hwg : wrB g = decide (g.kind = 3 ∨ g.kind = 4 ∨ g.kind = 5) := rfl
     by_cases hg : wrB g = true
     rotate_left
     · have hgo : ¬ gvF g (evObj e) (evId e) = true := by unfold gvF; simp [hg]
       have hg' : wrB g = false := by simpa using hg
       rw [if_neg hgo] at hB
       simp (disch := omega) only [stVr2, hX, List.length_map, he2, ld_ev, go_sem]
       refine call_with (okWrites g) ?_
       rw [← hwg, hg']
       simp (disch := omega) only [go_sem]
       refine loop_next (j + 1) _ _ rfl (by omega) (by omega) ?_ ?_
       · simp (disch := omega) only [go_sem]
       · simp (disch := omega) only [hB, go_sem]
     by_cases hog : evObj g = o
     rotate_left
     · have hp2 := peqI_f hog
       have hgo : ¬ gvF g (evObj e) (evId e) = true := by rw [← ho] at hog; unfold gvF; simp [hog]
       rw [if_neg hgo] at hB
       simp (disch := omega) only [stVr2, hX, List.length_map, he2, ld_ev, go_sem]
       refine call_with (okWrites g) ?_
       rw [← hwg, hg]
       simp (disch := omega) only [List.length_map, he2, ld_evObj, fits_id, fitsId2, hp2, go_sem]
       refine loop_next (j + 1) _ _ rfl (by omega) (by omega) ?_ ?_
       · simp (disch := omega) only [go_sem]
       · simp (disch := omega) only [hB, go_sem]
     have hp2 := peqI_t hog
     have hpv : g.base.pv = .sl g.base.f g.base.z (g.base.l.map idE) := rfl
     simp (disch := omega) only [stVr2, hX, List.length_map, he2, ld_ev, go_sem]
     refine call_with (okWrites g) ?_
     rw [← hwg, hg]
     simp (disch := omega) only [List.length_map, he2, ld_evObj, fits_id, fitsId2, hp2, ld_ev17, ld_verId, go_sem]
     refine call_with (okIn12 g.base (X.rep, X.seq) hevj.2.1 hevj.2.2.2.1) ?_
     by_cases hin : (X.rep, X.seq) ∈ g.base.l
     · have hgo : gvF g (evObj e) (evId e) = true := by
        rw [hid] at hin; unfold gvF; simp [hg, hog, ho, hin]
       rw [if_pos hgo] at hB
       have hsp := spliceV_by X (withV X.gone g.rep g.seq)
       have hvl := vE_length (withV X.gone g.rep g.seq)
       simp (disch := omega) only [hin, ld_verBy, List.length_map, he2, ld_evId, go_sem]
       refine call_with (okWithR' _ _ _) ?_
       simp (disch := omega) only [hsp, hvl, go_sem]
       refine loop_next (j + 1) _ _ rfl (by omega) (by omega) ?_ ?_
       · simp (disch := omega) only [go_sem]
       · simp (disch := omega) only [hB, go_sem]
     · have hgo : ¬ gvF g (evObj e) (evId e) = true := by
        rw [hid] at hin; unfold gvF; simp [hin]
       rw [if_neg hgo] at hB
       simp (disch := omega) only [hin, go_sem]
       refine loop_next (j + 1) _ _ rfl (by omega) (by omega) ?_ ?_
       · simp (disch := omega) only [go_sem]
       · simp (disch := omega) only [hB, go_sem]
   · obtain rfl : j = l.length := by omega
     have htk : l.take l.length = l := List.take_length
     simp (disch := omega) only [stVr2, List.length_map, htk, ld_ver, go_sem]
     refine call_with (okAddR0 (l := versG l o (l.take k)) (v := verB l l e) hso (by omega) hnew rfl) ?_
     simp (disch := omega) only [go_sem]
     refine ⟨k + 1, by omega, by omega, wk_frz 40 rfl (wk_ren 85 40 (by decide) rfl (weak_mk ?_ ?_))⟩
     · simp (disch := omega) only [go_sem]
     · simp (disch := omega) only [hsn, go_sem]
 · obtain rfl : k = l.length := by omega
   have htk : l.take l.length = l := List.take_length
   simp (disch := omega) only [stVr, List.length_map, htk, go_sem]
mutual
theorem rn_cl {π : Nat → Nat} : ∀ {x : SV}, x.closed = true → x.rn π = x
 | .pv _, _ => rfl
 | .vec _ _, _ => rfl
 | .pi _ _ _ _, _ => rfl
 | .dead, _ => rfl
 | .agg l, h => by simp only [SV.closed] at h; simp only [SV.rn, rnL_cl h]
 | .tup l, h => by simp only [SV.closed] at h; simp only [SV.rn, rnL_cl h]
 | .fn f l, h => by simp only [SV.closed] at h; simp only [SV.rn, rnL_cl h]
 | .p _ _, h => by simp [SV.closed] at h
 | .ps _ _, h => by simp [SV.closed] at h
 | .pr _ _ _ _, h => by simp [SV.closed] at h
 | .os _, h => by simp [SV.closed] at h
 | .ov _ _ _ _, h => by simp [SV.closed] at h
theorem rnL_cl {π : Nat → Nat} : ∀ {l : List SV}, SV.closedL l = true → SV.rnL π l = l
 | [], _ => rfl
 | x :: l, h => by
   simp only [SV.closedL, Bool.and_eq_true] at h
   simp only [SV.rnL, rn_cl h.1, rnL_cl h.2]
end
mutual
theorem tn_cl : ∀ {x : SV}, x.closed = true → tn x = []
 | .pv _, _ => rfl
 | .vec _ _, _ => rfl
 | .pi _ _ _ _, _ => rfl
 | .dead, _ => rfl
 | .agg l, h => by simp only [SV.closed] at h; simp only [tn, tops_cl h]
 | .tup l, h => by simp only [SV.closed] at h; simp only [tn, tops_cl h]
 | .fn f l, h => by simp only [SV.closed] at h; simp only [tn, tops_cl h]
 | .p _ _, h => by simp [SV.closed] at h
 | .ps _ _, h => by simp [SV.closed] at h
 | .pr _ _ _ _, h => by simp [SV.closed] at h
 | .os _, h => by simp [SV.closed] at h
 | .ov _ _ _ _, h => by simp [SV.closed] at h
theorem tops_cl : ∀ {l : List SV}, SV.closedL l = true → tops l = []
 | [], _ => rfl
 | x :: l, h => by
   simp only [SV.closedL, Bool.and_eq_true] at h
   simp only [tops, tn_cl h.1, tops_cl h.2, List.append_nil]
end
theorem sw1_a (a m : Nat) : sw1 a m a = m := if_pos rfl
theorem FunOk.quiet {P : Program} {f : Nat} {args : List SV} {h : Nat → Option Blk} {d g : Nat} {x : SV} {blk : Blk} (hf : FunOk P f args h d x [.upd g blk]) (hg : h g = some blk) (hin : g ∈ tops args) : FunOk P f args h d x [] :=
 ⟨hf.1, fun F N ρ s a w hR hh vs hc => by
  have hs : s.h g = some blk := (hh g hin).trans hg
  have e : s.hup [.upd g blk] = s := FS.ext' (fun _ => rfl) fun n => by
   simp only [FS.hup, FS.seth]
   split
   · rename_i e; rw [e]; exact hs.symm
   · rfl
  have := hf.2 F N ρ s a w hR hh vs hc
  rw [e] at this
  exact this⟩
theorem FunOk.ioRow {P : Program} {f : Nat} {a : List SV} {sz : Nat} {es : List (List PV)} {x : SV} (hf : ∀ h d, h 900 = some (.row sz es) → FunOk P f (.os 900 :: a) h d x [.upd 900 (.row sz es)]) (ha : SV.closedL a = true) (hx : x.closed = true) {g : Nat} {h : Nat → Option Blk} {d : Nat} (hg : h g = some (.row sz es)) :
 FunOk P f (.os g :: a) h d x [] := by
 have h1 := (hf (fun k => h (sw1 900 g k)) d (by show h (sw1 900 g 900) = _; rw [sw1_a]; exact hg)).rn (π := sw1 900 g) (sw1_inv 900 g) (d' := d)
 simp only [SV.rnL, SV.rn, HU.rn, Blk.rn, List.map_cons, List.map_nil, sw1_a, rnL_cl ha, rn_cl hx] at h1
 refine FunOk.quiet (g := g) (blk := .row sz es) (h1.at fun n hn => ?_) hg (by simp [tops, tn])
 simp only [tops, tn, tops_cl ha, List.append_nil, List.mem_singleton] at hn
 subst hn
 simp only [sw1_inv, hg, Option.map_some, Blk.rn]
def stepO (e : Evt) (o : Obj) (f : Evt) : Obj :=
 if evObj f = evId e then
  if f.kind = 7 then (if idLt o.last.1 o.last.2 f.rep f.seq = true then { o with last := evId f, name := f.name } else o)
  else if f.kind = 6 then { o with seen := vJoin o.seen (withV f.dep f.rep f.seq) } else o
 else o
noncomputable def objB (l m : List Evt) (e : Evt) : Obj := m.foldl (stepO e) ⟨evId e, decide (e.kind = 2), evId e, e.name, fun _ => 0, versG l (evId e) l⟩
theorem objB_snoc (l m : List Evt) (e f : Evt) : objB l (m ++ [f]) e = stepO e (objB l m e) f := by simp [objB]
def zeroO : SV := .agg [.pv (.i .i64 0), .pv (.i .u32 0), .pv (.b false), .pv (.i .i64 0), .pv (.i .u32 0), .pv (.s []), .vec 8 (vE fun _ => 0), .pv (.sl true 0 [])]
theorem obj_agg (o : Obj) : Imp (.agg [.vec 2 [.i .i64 o.id.1, .i .u32 o.id.2], .pv (.b o.dir), .vec 2 [.i .i64 o.last.1, .i .u32 o.last.2], .pv (.s o.name), .vec 8 (vE o.seen), .pv (.sl false 11 (o.vers.map verE))]) (.vec 15 (objE o)) := imp_agg (by rfl) (objE_len _)
noncomputable def stObD (f : Bool) (l : List Evt) (e : Evt) (k : Nat) : FS := mk [(6, .pv (.i .i64 k)), (0, .pv (.sl f 21 (l.map evE))), (3, .p 3 0), (4, .p 4 0), (5, .p 5 0)] [(3, some (.var (.vec 21 (evE e)))), (4, some (.var zeroO)), (5, some (.var (.vec 15 (objE (objB l (l.take k) e)))))]
noncomputable def stObI (f : Bool) (l : List Evt) (e : Evt) (k : Nat) : FS := mk [(6, .pv (.i .i64 k)), (0, .os 900), (3, .p 3 0), (4, .p 4 0), (5, .p 5 0), (1000000, .os 900)] [(3, some (.var (.vec 21 (evE e)))), (4, some (.var zeroO)), (5, some (.var (.vec 15 (objE (objB l (l.take k) e))))), (900, some (.row 21 (l.map evE)))]
set_option maxHeartbeats 8000000 in
theorem okObjectD {f : Bool} {l : List Evt} {rk : Evt → Nat} (e : Evt) {h d} (hE : EvsOk l rk) : FunOk Tryz.prog 30 [.pv (.sl f 21 (l.map evE)), .vec 21 (evE e)] h d (.vec 15 (objE (objB l l e))) [] := by
 refine fun_pure mixed fn30 (by simp) rfl rfl fun F => ?_
 have hn := hE.len
 simp (disch := omega) only [ir30, ld_evId, ld_ev10, ld_ev15, Blk.ptr, go_sem]
 refine call_with (okVersions (rk := rk) (l := l) (evId e) rfl rfl hE) ?_
 simp (disch := omega) only [go_sem]
 refine loop_ok mixed (stObD f l e) (fun k => k ≤ l.length) (fun k => l.length - k) 0 (by simp) (weak_mk ?_ ?_) fun k hk => ?_
 · simp (disch := omega) only [go_sem]
 · simp (disch := omega) only [objB, List.take_zero, List.foldl_nil, zeroO, go_sem]
   exact obj_agg ⟨evId e, decide (e.kind = 2), evId e, e.name, fun _ => 0, versG l (evId e) l⟩
 by_cases hlt : k < l.length
 · have hx : l[k]? = some l[k] := List.getElem?_eq_getElem hlt
   have he : (l.map evE)[k]? = some (evE l[k]) := by rw [List.getElem?_map, hx]; rfl
   have ht := take_snoc hx
   have hsn := objB_snoc l (l.take k) e l[k]
   rw [← ht] at hsn
   generalize l[k] = g at *
   generalize hX : objB l (l.take k) e = X at *
   by_cases ho : evObj g = evId e
   rotate_left
   · have hp := peqI_f ho
     have hs : stepO e X g = X := if_neg ho
     rw [hs] at hsn
     simp (disch := omega) only [stObD, hX, List.length_map, he, ld_evObj, ld_evId, fits_id, fitsId2, hp, go_sem]
     refine loop_next (k + 1) _ _ rfl (by omega) (by omega) ?_ ?_
     · simp (disch := omega) only [go_sem]
     · simp (disch := omega) only [hsn, zeroO, go_sem]
   have hp := peqI_t ho
   by_cases h7 : g.kind = 7
   · by_cases hl7 : idLt X.last.1 X.last.2 g.rep g.seq = true
     · have hs : stepO e X g = { X with last := evId g, name := g.name } := by unfold stepO; rw [if_pos ho, if_pos h7, if_pos hl7]
       rw [hs] at hsn
       have hsp := spo_last X (evId g)
       have hsp2 := spo_name { X with last := evId g } g.name
       simp (disch := omega) only [stObD, hX, List.length_map, he, ld_evObj, ld_evId, fits_id, fitsId2, hp, ld_ev10, h7, ld_objLast, go_sem]
       refine call_with (okLessR X.last.1 X.last.2 g.rep g.seq) ?_
       simp (disch := omega) only [hl7, go_sem]
       refine anyP_now ?_
       simp (disch := omega) only [List.length_map, he, ld_evId, ld_ev15, hsp, hsp2, ld_ev10, h7, go_sem]
       refine loop_next (k + 1) _ _ rfl (by omega) (by omega) ?_ ?_
       · simp (disch := omega) only [go_sem]
       · simp (disch := omega) only [hsn, zeroO, go_sem]
     · have hs : stepO e X g = X := by unfold stepO; rw [if_pos ho, if_pos h7, if_neg hl7]
       rw [hs] at hsn
       have hl7' : idLt X.last.1 X.last.2 g.rep g.seq = false := by simpa using hl7
       simp (disch := omega) only [stObD, hX, List.length_map, he, ld_evObj, ld_evId, fits_id, fitsId2, hp, ld_ev10, h7, ld_objLast, go_sem]
       refine call_with (okLessR X.last.1 X.last.2 g.rep g.seq) ?_
       simp (disch := omega) only [hl7', List.length_map, he, ld_ev10, h7, go_sem]
       refine loop_next (k + 1) _ _ rfl (by omega) (by omega) ?_ ?_
       · simp (disch := omega) only [go_sem]
       · simp (disch := omega) only [hsn, zeroO, go_sem]
   by_cases h6 : g.kind = 6
   · have hs : stepO e X g = { X with seen := vJoin X.seen (withV g.dep g.rep g.seq) } := by unfold stepO; rw [if_pos ho, if_neg h7, if_pos h6]
     rw [hs] at hsn
     have hsp := spo_seen X (vJoin X.seen (withV g.dep g.rep g.seq))
     have hvl := vE_length (vJoin X.seen (withV g.dep g.rep g.seq))
     simp (disch := omega) only [stObD, hX, List.length_map, he, ld_evObj, ld_evId, fits_id, fitsId2, hp, ld_ev10, h7, h6, ld_objSeen, ld_evDep, go_sem]
     refine call_with (okWithR' _ _ _) ?_
     simp (disch := omega) only [go_sem]
     refine call_with (okJoinR _ _) ?_
     simp (disch := omega) only [hsp, hvl, go_sem]
     refine loop_next (k + 1) _ _ rfl (by omega) (by omega) ?_ ?_
     · simp (disch := omega) only [go_sem]
     · simp (disch := omega) only [hsn, zeroO, go_sem]
   · have hs : stepO e X g = X := by unfold stepO; rw [if_pos ho, if_neg h7, if_neg h6]
     rw [hs] at hsn
     simp (disch := omega) only [stObD, hX, List.length_map, he, ld_evObj, ld_evId, fits_id, fitsId2, hp, ld_ev10, h7, h6, go_sem]
     refine loop_next (k + 1) _ _ rfl (by omega) (by omega) ?_ ?_
     · simp (disch := omega) only [go_sem]
     · simp (disch := omega) only [hsn, zeroO, go_sem]
 obtain rfl : k = l.length := by omega
 have htk : l.take l.length = l := List.take_length
 have hol := objE_len (objB l l e)
 simp (disch := omega) only [stObD, zeroO, List.length_map, htk, ld_obj, hol, go_sem]
set_option maxHeartbeats 8000000 in
theorem okObjectI9 {l : List Evt} {rk : Evt → Nat} (e : Evt) {h d} (hE : EvsOk l rk) (hg : h 900 = some (.row 21 (l.map evE))) : FunOk Tryz.prog 30 [.os 900, .vec 21 (evE e)] h d (.vec 15 (objE (objB l l e))) [.upd 900 (.row 21 (l.map evE))] := by
 refine fun_io1 (g := 900) mixed fn30 (by simp) (by simp [tops, tn]) (by simp [tops, tn]) hg rfl (by simp [Blk.ptr, SV.kill]) rfl (fun _ => rfl) fun F => ?_
 obtain ⟨f, hf⟩ : ∃ f : Bool, f = false := ⟨_, rfl⟩
 have hn := hE.len
 simp (disch := omega) only [ir30, ld_evId, ld_ev10, ld_ev15, Blk.ptr, go_sem]
 refine call_with (okVersions (rk := rk) (l := l) (evId e) rfl rfl hE) ?_
 simp (disch := omega) only [go_sem]
 refine loop_ok mixed (stObI f l e) (fun k => k ≤ l.length) (fun k => l.length - k) 0 (by simp) (weak_mk ?_ ?_) fun k hk => ?_
 · simp (disch := omega) only [go_sem]
 · simp (disch := omega) only [objB, List.take_zero, List.foldl_nil, zeroO, go_sem]
   exact obj_agg ⟨evId e, decide (e.kind = 2), evId e, e.name, fun _ => 0, versG l (evId e) l⟩
 by_cases hlt : k < l.length
 · have hx : l[k]? = some l[k] := List.getElem?_eq_getElem hlt
   have he : (l.map evE)[k]? = some (evE l[k]) := by rw [List.getElem?_map, hx]; rfl
   have ht := take_snoc hx
   have hsn := objB_snoc l (l.take k) e l[k]
   rw [← ht] at hsn
   generalize l[k] = g at *
   generalize hX : objB l (l.take k) e = X at *
   by_cases ho : evObj g = evId e
   rotate_left
   · have hp := peqI_f ho
     have hs : stepO e X g = X := if_neg ho
     rw [hs] at hsn
     simp (disch := omega) only [stObI, hX, List.length_map, he, ld_evObj, ld_evId, fits_id, fitsId2, hp, go_sem]
     refine loop_next (k + 1) _ _ rfl (by omega) (by omega) ?_ ?_
     · simp (disch := omega) only [go_sem]
     · simp (disch := omega) only [hsn, zeroO, go_sem]
   have hp := peqI_t ho
   by_cases h7 : g.kind = 7
   · by_cases hl7 : idLt X.last.1 X.last.2 g.rep g.seq = true
     · have hs : stepO e X g = { X with last := evId g, name := g.name } := by unfold stepO; rw [if_pos ho, if_pos h7, if_pos hl7]
       rw [hs] at hsn
       have hsp := spo_last X (evId g)
       have hsp2 := spo_name { X with last := evId g } g.name
       simp (disch := omega) only [stObI, hX, List.length_map, he, ld_evObj, ld_evId, fits_id, fitsId2, hp, ld_ev10, h7, ld_objLast, go_sem]
       refine call_with (okLessR X.last.1 X.last.2 g.rep g.seq) ?_
       simp (disch := omega) only [hl7, go_sem]
       refine anyP_now ?_
       simp (disch := omega) only [List.length_map, he, ld_evId, ld_ev15, hsp, hsp2, ld_ev10, h7, go_sem]
       refine loop_next (k + 1) _ _ rfl (by omega) (by omega) ?_ ?_
       · simp (disch := omega) only [go_sem]
       · simp (disch := omega) only [hsn, zeroO, go_sem]
     · have hs : stepO e X g = X := by unfold stepO; rw [if_pos ho, if_pos h7, if_neg hl7]
       rw [hs] at hsn
       have hl7' : idLt X.last.1 X.last.2 g.rep g.seq = false := by simpa using hl7
       simp (disch := omega) only [stObI, hX, List.length_map, he, ld_evObj, ld_evId, fits_id, fitsId2, hp, ld_ev10, h7, ld_objLast, go_sem]
       refine call_with (okLessR X.last.1 X.last.2 g.rep g.seq) ?_
       simp (disch := omega) only [hl7', List.length_map, he, ld_ev10, h7, go_sem]
       refine loop_next (k + 1) _ _ rfl (by omega) (by omega) ?_ ?_
       · simp (disch := omega) only [go_sem]
       · simp (disch := omega) only [hsn, zeroO, go_sem]
   by_cases h6 : g.kind = 6
   · have hs : stepO e X g = { X with seen := vJoin X.seen (withV g.dep g.rep g.seq) } := by unfold stepO; rw [if_pos ho, if_neg h7, if_pos h6]
     rw [hs] at hsn
     have hsp := spo_seen X (vJoin X.seen (withV g.dep g.rep g.seq))
     have hvl := vE_length (vJoin X.seen (withV g.dep g.rep g.seq))
     simp (disch := omega) only [stObI, hX, List.length_map, he, ld_evObj, ld_evId, fits_id, fitsId2, hp, ld_ev10, h7, h6, ld_objSeen, ld_evDep, go_sem]
     refine call_with (okWithR' _ _ _) ?_
     simp (disch := omega) only [go_sem]
     refine call_with (okJoinR _ _) ?_
     simp (disch := omega) only [hsp, hvl, go_sem]
     refine loop_next (k + 1) _ _ rfl (by omega) (by omega) ?_ ?_
     · simp (disch := omega) only [go_sem]
     · simp (disch := omega) only [hsn, zeroO, go_sem]
   · have hs : stepO e X g = X := by unfold stepO; rw [if_pos ho, if_neg h7, if_neg h6]
     rw [hs] at hsn
     simp (disch := omega) only [stObI, hX, List.length_map, he, ld_evObj, ld_evId, fits_id, fitsId2, hp, ld_ev10, h7, h6, go_sem]
     refine loop_next (k + 1) _ _ rfl (by omega) (by omega) ?_ ?_
     · simp (disch := omega) only [go_sem]
     · simp (disch := omega) only [hsn, zeroO, go_sem]
 obtain rfl : k = l.length := by omega
 have htk : l.take l.length = l := List.take_length
 have hol := objE_len (objB l l e)
 simp (disch := omega) only [stObI, zeroO, List.length_map, htk, ld_obj, hol, go_sem]
 refine deep_end ?_
 simp (disch := omega) only [go_sem]
theorem okObjectI {l : List Evt} {rk : Evt → Nat} (e : Evt) {h d g} (hE : EvsOk l rk) (hg : h g = some (.row 21 (l.map evE))) : FunOk Tryz.prog 30 [.os g, .vec 21 (evE e)] h d (.vec 15 (objE (objB l l e))) [] :=
 FunOk.ioRow (fun h d hg => okObjectI9 e hE hg) rfl rfl hg
def insO (l : List Obj) (o : Obj) : List Obj := l.take (posO l o.id) ++ o :: l.drop (posO l o.id)
noncomputable def bStep (l : List Evt) (p : St × Vc) (e : Evt) : St × Vc :=
 if e.kind = 1 ∨ e.kind = 2 then ({ p.1 with objs := insO p.1.objs (objB l l e) }, p.2)
 else if e.kind = 8 then (if getV p.2 e.rep < e.seq then (seatS p.1 e, withV p.2 e.rep e.seq) else p)
 else if e.kind = 9 then (retS p.1 e, p.2)
 else p
noncomputable def bldP (l m : List Evt) : St × Vc := m.foldl (bStep l) (⟨knownG l, [], entsG l l, fun _ => 0, fun _ => false⟩, fun _ => 0)
noncomputable def buildS (l : List Evt) : St := (bldP l l).1
theorem bldP_snoc (l m : List Evt) (e : Evt) : bldP l (m ++ [e]) = bStep l (bldP l m) e := by simp [bldP]
theorem mem_insO {l : List Obj} {o x : Obj} : x ∈ insO l o ↔ x = o ∨ x ∈ l := by
 unfold insO
 simp only [List.mem_append, List.mem_cons]
 have : x ∈ l ↔ x ∈ l.take (posO l o.id) ∨ x ∈ l.drop (posO l o.id) := by rw [← List.mem_append, List.take_append_drop]
 rw [this]
 constructor
 · rintro (h | h | h)
   · exact .inr (.inl h)
   · exact .inl h
   · exact .inr (.inr h)
 · rintro (h | h | h)
   · exact .inr (.inl h)
   · exact .inl h
   · exact .inr (.inr h)
theorem insO_len (l : List Obj) (o : Obj) : (insO l o).length = l.length + 1 := by
 unfold insO
 simp only [List.length_append, List.length_take, List.length_cons, List.length_drop]
 have := posO_le l o.id; omega
theorem obN_ins (l : List Obj) (o : Obj) : (insO l o).map obN = insE (l.map obN) (obN o) := by
 unfold insO insE posO
 simp [List.map_take, List.map_drop]; rfl
theorem sortO_ins {l : List Obj} {o : Obj} (hs : SortO l) (hn : ∀ x ∈ l, x.id ≠ o.id) : SortO (insO l o) := by
 unfold SortO; rw [obN_ins]
 refine sort_ins hs (look_none.2 fun x hx => ?_)
 obtain ⟨u, hu, rfl⟩ := List.mem_map.1 hx
 exact hn u hu
theorem objB_id (l : List Evt) (e : Evt) : ∀ m : List Evt, (objB l m e).id = evId e := fun m => by
 unfold objB
 generalize hq : (⟨evId e, decide (e.kind = 2), evId e, e.name, fun _ => 0, versG l (evId e) l⟩ : Obj) = o
 have : o.id = evId e := by rw [← hq]
 clear hq
 induction m generalizing o with
 | nil => exact this
 | cons f m ih =>
   simp only [List.foldl_cons]
   refine ih _ ?_
   unfold stepO
   split
   · split
     · split <;> exact this
     · split <;> exact this
   · exact this
theorem bld_objs {l : List Evt} : ∀ (n : Nat) (m : List Evt), m.length = n → NodE m → SortO (bldP l m).1.objs ∧ (bldP l m).1.objs.length ≤ n ∧ ∀ o, o ∈ (bldP l m).1.objs ↔ ∃ e ∈ m, (e.kind = 1 ∨ e.kind = 2) ∧ o = objB l l e
 | 0, m, h, _ => by obtain rfl := List.eq_nil_of_length_eq_zero h; exact ⟨List.Pairwise.nil, by simp [bldP], by simp [bldP]⟩
 | n + 1, m, h, hn => by
   have hne : m ≠ [] := fun e => by subst e; simp at h
   have e1 := (List.dropLast_concat_getLast hne).symm
   have hn' : NodE m.dropLast := by unfold NodE at *; rw [List.map_dropLast]; exact hn.sublist (List.dropLast_sublist _)
   obtain ⟨h1, h2, h3⟩ := bld_objs (l := l) n m.dropLast (by simp [h]) hn'
   rw [e1] at hn ⊢
   rw [bldP_snoc]
   generalize m.getLast hne = e at *
   generalize m.dropLast = m' at *
   have grow : ∀ o : Obj, ((∃ f ∈ m' ++ [e], (f.kind = 1 ∨ f.kind = 2) ∧ o = objB l l f) ↔ (∃ f ∈ m', (f.kind = 1 ∨ f.kind = 2) ∧ o = objB l l f) ∨ ((e.kind = 1 ∨ e.kind = 2) ∧ o = objB l l e)) := fun o => by
    simp only [List.mem_append, List.mem_singleton]
    constructor
    · rintro ⟨f, hf | rfl, h⟩
      · exact .inl ⟨f, hf, h⟩
      · exact .inr h
    · rintro (⟨f, hf, h⟩ | h)
      · exact ⟨f, .inl hf, h⟩
      · exact ⟨e, .inr rfl, h⟩
   by_cases h12 : e.kind = 1 ∨ e.kind = 2
   · have hS : (bStep l (bldP l m') e).1.objs = insO (bldP l m').1.objs (objB l l e) := by unfold bStep; rw [if_pos h12]
     rw [hS]
     have hnew : ∀ x ∈ (bldP l m').1.objs, x.id ≠ (objB l l e).id := fun x hx => by
      obtain ⟨f, hf, _, rfl⟩ := (h3 x).1 hx
      rw [objB_id, objB_id]
      unfold NodE at hn
      rw [List.map_append, List.nodup_append] at hn
      exact hn.2.2 (evId f) (List.mem_map_of_mem hf) (evId e) (by simp)
     refine ⟨sortO_ins h1 hnew, by rw [insO_len]; omega, fun o => ?_⟩
     rw [mem_insO, h3, grow]
     constructor
     · rintro (h | h)
       · exact .inr ⟨h12, h⟩
       · exact .inl h
     · rintro (h | h)
       · exact .inr h
       · exact .inl h.2
   · have hS : (bStep l (bldP l m') e).1.objs = (bldP l m').1.objs := by
      unfold bStep; rw [if_neg h12]
      split
      · split <;> rfl
      · split <;> rfl
     rw [hS]
     refine ⟨h1, by omega, fun o => ?_⟩
     rw [h3, grow]
     exact ⟨.inl, fun h => h.resolve_right fun q => h12 q.1⟩
theorem bld_ents (l m : List Evt) : (bldP l m).1.ents = entsG l l ∧ (bldP l m).1.known = knownG l := by
 unfold bldP
 generalize hq : ((⟨knownG l, [], entsG l l, fun _ => 0, fun _ => false⟩ : St), (fun _ => 0 : Vc)) = p
 have : p.1.ents = entsG l l ∧ p.1.known = knownG l := by rw [← hq]; exact ⟨rfl, rfl⟩
 clear hq
 induction m generalizing p with
 | nil => exact this
 | cons f m ih =>
   simp only [List.foldl_cons]
   refine ih _ ?_
   unfold bStep
   split
   · exact this
   · split
     · split
       · exact this
       · exact this
     · split <;> exact this
noncomputable def stBdD (f : Bool) (l : List Evt) (k : Nat) : FS := mk [(5, .pv (.i .i64 k)), (0, .pv (.sl f 21 (l.map evE))), (2, .p 2 0), (3, .p 3 0), (4, .p 4 0)] [(2, some (.var zeroS)), (3, some (.var (.agg (segS (bldP l (l.take k)).1)))), (4, some (.var (.vec 8 (vE (bldP l (l.take k)).2))))]
noncomputable def stBdI (f : Bool) (l : List Evt) (k : Nat) : FS := mk [(5, .pv (.i .i64 k)), (0, .os 900), (2, .p 2 0), (3, .p 3 0), (4, .p 4 0), (1000000, .os 900)] [(2, some (.var zeroS)), (3, some (.var (.agg (segS (bldP l (l.take k)).1)))), (4, some (.var (.vec 8 (vE (bldP l (l.take k)).2)))), (900, some (.row 21 (l.map evE)))]
noncomputable def stBjD (f : Bool) (l : List Evt) (k : Nat) (e : Evt) (S : St) (v : Vc) (o : Obj) (j : Nat) : FS := mk [(8, .pv (.i .i64 j)), (7, .p 7 0), (6, .p 6 0), (5, .pv (.i .i64 k)), (0, .pv (.sl f 21 (l.map evE))), (2, .p 2 0), (3, .p 3 0), (4, .p 4 0)] [(7, some (.var (.vec 15 (objE o)))), (6, some (.var (.vec 21 (evE e)))), (2, some (.var zeroS)), (3, some (.var (.agg (segS S)))), (4, some (.var (.vec 8 (vE v))))]
noncomputable def stBjI (f : Bool) (l : List Evt) (k : Nat) (e : Evt) (S : St) (v : Vc) (o : Obj) (j : Nat) : FS := mk [(8, .pv (.i .i64 j)), (7, .p 7 0), (6, .p 6 0), (5, .pv (.i .i64 k)), (0, .os 900), (2, .p 2 0), (3, .p 3 0), (4, .p 4 0), (1000000, .os 900)] [(7, some (.var (.vec 15 (objE o)))), (6, some (.var (.vec 21 (evE e)))), (2, some (.var zeroS)), (3, some (.var (.agg (segS S)))), (4, some (.var (.vec 8 (vE v)))), (900, some (.row 21 (l.map evE)))]
theorem posO_lt {l : List Obj} {i : Idn} {k : Nat} {x : Obj} (hk : k < posO l i) (hx : l[k]? = some x) : ilt x.id i = true := by
 obtain ⟨y, h1, h2⟩ := pos_lt (l := l.map obN) hk
 rw [get_obN hx] at h1; cases h1; exact h2
theorem posO_ge {l : List Obj} (hs : SortO l) {i : Idn} {k : Nat} {x : Obj} (hk : posO l i ≤ k) (hx : l[k]? = some x) : ¬ ilt x.id i = true := pos_ge (l := l.map obN) hs hk (get_obN hx)
set_option maxHeartbeats 16000000 in
theorem okBuildD {f : Bool} {l : List Evt} {rk : Evt → Nat} {h d} (hE : EvsOk l rk) (hB : ∀ e ∈ l, 1 ≤ e.rep ∧ e.rep ≤ 8) : FunOk Tryz.prog 12 [.pv (.sl f 21 (l.map evE))] h d (.agg (segS (buildS l))) [] := by
 refine fun_pure mixed fn12 (by simp) rfl rfl fun F => ?_
 have hn := hE.len
 have hevs : ∀ e ∈ l, ev e := fun e he => (hE.ev e he).1
 simp (disch := omega) only [ir12, Blk.ptr, go_sem]
 refine call_with (okKnown (l := l) rfl rfl (by omega)) ?_
 simp (disch := omega) only [go_sem]
 refine call_with (okEntries (l := l) rfl rfl (by omega) hevs) ?_
 simp (disch := omega) only [go_sem]
 refine loop_ok mixed (stBdD f l) (fun k => k ≤ l.length) (fun k => l.length - k) 0 (by simp) (weak_mk ?_ ?_) fun k hk => ?_
 · simp (disch := omega) only [go_sem]
 · simp (disch := omega) only [bldP, List.take_zero, List.foldl_nil, zeroS, go_sem]
   exact ⟨seg_imp (s := ⟨knownG l, [], entsG l l, fun _ => 0, fun _ => false⟩) (.inl rfl) (.inr rfl) trivial (.refl _), rfl⟩
 by_cases hlt : k < l.length
 · have hx : l[k]? = some l[k] := List.getElem?_eq_getElem hlt
   have he : (l.map evE)[k]? = some (evE l[k]) := by rw [List.getElem?_map, hx]; rfl
   have ht := take_snoc hx
   have hsn := bldP_snoc l (l.take k) l[k]
   have hlk : (l.take k).length ≤ 400 := by simp; omega
   have hnd := hE.nod.take (k + 1)
   rw [← ht] at hsn
   rw [ht] at hnd
   have hrep := hB _ (List.getElem_mem hlt)
   generalize l[k] = e at *
   obtain ⟨hso, hol, hom⟩ := bld_objs (l := l) _ (l.take k) rfl (hE.nod.take k)
   have hel := evE_len e
   generalize hX : bldP l (l.take k) = X at *
   obtain ⟨S, v⟩ := X
   simp only at hso hol hom
   by_cases h12 : e.kind = 1 ∨ e.kind = 2
   · have hs : bStep l (S, v) e = ({ S with objs := insO S.objs (objB l l e) }, v) := by unfold bStep; rw [if_pos h12]
     rw [hs] at hsn
     have n8 : ¬ e.kind = 8 := by omega
     have n9 : ¬ e.kind = 9 := by omega
     have hoe := objE_len (objB l l e)
     have hoi := objB_id l e l
     have hnew : ∀ x ∈ S.objs, x.id ≠ evId e := fun x hx => by
      obtain ⟨f, hf, _, rfl⟩ := (hom x).1 hx
      rw [objB_id]
      unfold NodE at hnd
      rw [List.map_append, List.nodup_append] at hnd
      exact hnd.2.2 (evId f) (List.mem_map_of_mem hf) (evId e) (by simp)
     rcases h12 with h1 | h2
     · simp (disch := omega) only [stBdD, hX, List.length_map, he, ld_ev, hel, ld_ev10, h1, go_sem]
       refine call_with (okObjectD e hE) ?_
       simp (disch := omega) only [hoe, segS, segX, List.length_map, zeroS, go_sem]
       generalize hO : objB l l e = o at *
       have hp0 := posO_le S.objs (evId e)
       refine loop_ok mixed (stBjD f l k e S v o) (fun j => posO S.objs (evId e) ≤ j ∧ j ≤ S.objs.length) (fun j => j) S.objs.length ⟨hp0, Nat.le_refl _⟩ (weak_mk ?_ ?_) fun j hj => ?_
       · simp (disch := omega) only [go_sem]
       · simp (disch := omega) only [segS, segX, zeroS, go_sem]
       obtain ⟨hj1, hj2⟩ := hj
       by_cases hj0 : j = 0
       · subst hj0
         have hjq : posO S.objs (evId e) = 0 := by omega
         simp (disch := omega) only [stBjD, segS, segX, zeroS, go_sem]
         have hT : (S.objs.map objE).take S.objs.length = S.objs.map objE := List.take_of_length_le (by simp)
         have hD : ((S.objs.map objE).drop 0).length = S.objs.length - 0 := by simp
         have hD2 : ((S.objs.map objE).take 0).length = 0 := by rw [List.length_take, List.length_map]; omega
         have hI : (S.objs.map objE).take 0 ++ objE o :: S.objs.map objE = (insO S.objs o).map objE := by
          unfold insO; rw [hoi, hjq]; simp [List.map_take, List.map_drop]
         refine any_now ?_
         simp (disch := omega) only [List.length_map, ld_obj, hoe, hT, hD, hD2, ld_ev10, n8, n9, go_sem]
         refine ⟨k + 1, by omega, by omega, wk_frz 70 rfl (weak_mk ?_ ?_)⟩
         · simp (disch := omega) only [go_sem]
         · simp (disch := omega) only [hI, hsn, segS, segX, zeroS, go_sem]
       · have hjx : j - 1 < S.objs.length := by omega
         have hx3 : S.objs[j - 1]? = some S.objs[j - 1] := List.getElem?_eq_getElem hjx
         have he3 : (S.objs.map objE)[j - 1]? = some (objE S.objs[j - 1]) := by rw [List.getElem?_map, hx3]; rfl
         have hmx := List.getElem_mem hjx
         have ejn : ((j : Int) - 1).toNat = j - 1 := by omega
         have hjp : (0 : Int) < j := by omega
         generalize S.objs[j - 1] = x at *
         simp (disch := omega) only [stBjD, segS, segX, zeroS, hjp, List.length_map, ejn, he3, ld_objId, go_sem]
         refine call_with (okLessR o.id.1 o.id.2 x.id.1 x.id.2) ?_
         by_cases hlx : idLt o.id.1 o.id.2 x.id.1 x.id.2 = true
         · simp (disch := omega) only [hlx, go_sem]
           refine loop_next (j - 1) _ _ rfl ⟨?_, by omega⟩ (by omega) ?_ ?_
           · have : ¬ posO S.objs (evId e) = j := fun q => ilt_as (posO_lt (i := evId e) (by omega) hx3) (by rw [← hoi]; exact hlx)
             omega
           · simp (disch := omega) only [go_sem]
           · simp (disch := omega) only [segS, segX, zeroS, go_sem]
         · have hlx' : idLt o.id.1 o.id.2 x.id.1 x.id.2 = false := by simpa using hlx
           have hjq : posO S.objs (evId e) = j := by
            have h3 : ilt x.id (evId e) = true := by
             rw [hoi] at hlx
             exact ilt_tot hlx (fun q => hnew x hmx q.symm)
            have : ¬ posO S.objs (evId e) ≤ j - 1 := fun q => posO_ge hso q hx3 h3
            omega
           simp (disch := omega) only [hlx', go_sem]
           have hT : (S.objs.map objE).take S.objs.length = S.objs.map objE := List.take_of_length_le (by simp)
           have hD : ((S.objs.map objE).drop j).length = S.objs.length - j := by simp
           have hD2 : ((S.objs.map objE).take j).length = j := by rw [List.length_take, List.length_map]; omega
           have hI : (S.objs.map objE).take j ++ objE o :: (S.objs.map objE).drop j = (insO S.objs o).map objE := by
            unfold insO; rw [hoi, hjq]; simp [List.map_take, List.map_drop]
           refine any_now ?_
           simp (disch := omega) only [List.length_map, ld_obj, hoe, hT, hD, hD2, ld_ev10, n8, n9, go_sem]
           refine ⟨k + 1, by omega, by omega, wk_frz 70 rfl (weak_mk ?_ ?_)⟩
           · simp (disch := omega) only [go_sem]
           · simp (disch := omega) only [hI, hsn, segS, segX, zeroS, go_sem]
     · have n1 : ¬ e.kind = 1 := by omega
       simp (disch := omega) only [stBdD, hX, List.length_map, he, ld_ev, hel, ld_ev10, n1, h2, go_sem]
       refine call_with (okObjectD e hE) ?_
       simp (disch := omega) only [hoe, segS, segX, List.length_map, zeroS, go_sem]
       generalize hO : objB l l e = o at *
       have hp0 := posO_le S.objs (evId e)
       refine loop_ok mixed (stBjD f l k e S v o) (fun j => posO S.objs (evId e) ≤ j ∧ j ≤ S.objs.length) (fun j => j) S.objs.length ⟨hp0, Nat.le_refl _⟩ (weak_mk ?_ ?_) fun j hj => ?_
       · simp (disch := omega) only [go_sem]
       · simp (disch := omega) only [segS, segX, zeroS, go_sem]
       obtain ⟨hj1, hj2⟩ := hj
       by_cases hj0 : j = 0
       · subst hj0
         have hjq : posO S.objs (evId e) = 0 := by omega
         simp (disch := omega) only [stBjD, segS, segX, zeroS, go_sem]
         have hT : (S.objs.map objE).take S.objs.length = S.objs.map objE := List.take_of_length_le (by simp)
         have hD : ((S.objs.map objE).drop 0).length = S.objs.length - 0 := by simp
         have hD2 : ((S.objs.map objE).take 0).length = 0 := by rw [List.length_take, List.length_map]; omega
         have hI : (S.objs.map objE).take 0 ++ objE o :: S.objs.map objE = (insO S.objs o).map objE := by
          unfold insO; rw [hoi, hjq]; simp [List.map_take, List.map_drop]
         refine any_now ?_
         simp (disch := omega) only [List.length_map, ld_obj, hoe, hT, hD, hD2, ld_ev10, n8, n9, go_sem]
         refine ⟨k + 1, by omega, by omega, wk_frz 70 rfl (weak_mk ?_ ?_)⟩
         · simp (disch := omega) only [go_sem]
         · simp (disch := omega) only [hI, hsn, segS, segX, zeroS, go_sem]
       · have hjx : j - 1 < S.objs.length := by omega
         have hx3 : S.objs[j - 1]? = some S.objs[j - 1] := List.getElem?_eq_getElem hjx
         have he3 : (S.objs.map objE)[j - 1]? = some (objE S.objs[j - 1]) := by rw [List.getElem?_map, hx3]; rfl
         have hmx := List.getElem_mem hjx
         have ejn : ((j : Int) - 1).toNat = j - 1 := by omega
         have hjp : (0 : Int) < j := by omega
         generalize S.objs[j - 1] = x at *
         simp (disch := omega) only [stBjD, segS, segX, zeroS, hjp, List.length_map, ejn, he3, ld_objId, go_sem]
         refine call_with (okLessR o.id.1 o.id.2 x.id.1 x.id.2) ?_
         by_cases hlx : idLt o.id.1 o.id.2 x.id.1 x.id.2 = true
         · simp (disch := omega) only [hlx, go_sem]
           refine loop_next (j - 1) _ _ rfl ⟨?_, by omega⟩ (by omega) ?_ ?_
           · have : ¬ posO S.objs (evId e) = j := fun q => ilt_as (posO_lt (i := evId e) (by omega) hx3) (by rw [← hoi]; exact hlx)
             omega
           · simp (disch := omega) only [go_sem]
           · simp (disch := omega) only [segS, segX, zeroS, go_sem]
         · have hlx' : idLt o.id.1 o.id.2 x.id.1 x.id.2 = false := by simpa using hlx
           have hjq : posO S.objs (evId e) = j := by
            have h3 : ilt x.id (evId e) = true := by
             rw [hoi] at hlx
             exact ilt_tot hlx (fun q => hnew x hmx q.symm)
            have : ¬ posO S.objs (evId e) ≤ j - 1 := fun q => posO_ge hso q hx3 h3
            omega
           simp (disch := omega) only [hlx', go_sem]
           have hT : (S.objs.map objE).take S.objs.length = S.objs.map objE := List.take_of_length_le (by simp)
           have hD : ((S.objs.map objE).drop j).length = S.objs.length - j := by simp
           have hD2 : ((S.objs.map objE).take j).length = j := by rw [List.length_take, List.length_map]; omega
           have hI : (S.objs.map objE).take j ++ objE o :: (S.objs.map objE).drop j = (insO S.objs o).map objE := by
            unfold insO; rw [hoi, hjq]; simp [List.map_take, List.map_drop]
           refine any_now ?_
           simp (disch := omega) only [List.length_map, ld_obj, hoe, hT, hD, hD2, ld_ev10, n8, n9, go_sem]
           refine ⟨k + 1, by omega, by omega, wk_frz 70 rfl (weak_mk ?_ ?_)⟩
           · simp (disch := omega) only [go_sem]
           · simp (disch := omega) only [hI, hsn, segS, segX, zeroS, go_sem]
   have n1 : ¬ e.kind = 1 := fun h => h12 (.inl h)
   have n2 : ¬ e.kind = 2 := fun h => h12 (.inr h)
   obtain ⟨r, hr8, hre⟩ : ∃ r : Nat, r < 8 ∧ e.rep - 1 = r := ⟨(e.rep - 1).toNat, by omega, by omega⟩
   by_cases h8 : e.kind = 8
   · have n9 : ¬ e.kind = 9 := by omega
     by_cases hq : getV v e.rep < e.seq
     · have hs : bStep l (S, v) e = (seatS S e, withV v e.rep e.seq) := by unfold bStep; rw [if_neg h12, if_pos h8]; exact if_pos hq
       rw [hs] at hsn
       have hS : seatS S e = { S with wards := setV S.wards r e.ward } := by unfold seatS; rw [hre]; rfl
       rw [hS] at hsn
       have hsp := spl_ward S hr8 e.ward (.sl false 15 (S.objs.map objE)) (.sl false 15 (S.ents.map entE))
       have hq' : ((getV v e.rep : Nat) : Int) < (e.seq : Int) := by omega
       have hvl := vE_length (withV v e.rep e.seq)
       simp (disch := omega) only [stBdD, hX, List.length_map, he, ld_ev, hel, ld_ev10, n1, n2, h8, ld_ev0, ld_ev1, go_sem]
       refine call_with (okGetR v e.rep) ?_
       simp (disch := omega) only [hq', ld_evId, go_sem]
       refine call_with (okWithR' _ _ _) ?_
       simp (disch := omega) only [hvl, ld_ev0, hre, ld_ev20, segS, segX, hsp, ld_ev10, h8, go_sem]
       refine loop_next (k + 1) _ _ rfl (by omega) (by omega) ?_ ?_
       · simp (disch := omega) only [go_sem]
       · simp (disch := omega) only [hsn, zeroS, go_sem]
         exact ⟨st_seg { S with wards := setV S.wards r e.ward }, rfl⟩
     · have hs : bStep l (S, v) e = (S, v) := by unfold bStep; rw [if_neg h12, if_pos h8]; exact if_neg hq
       rw [hs] at hsn
       have hq' : ¬ ((getV v e.rep : Nat) : Int) < (e.seq : Int) := by omega
       simp (disch := omega) only [stBdD, hX, List.length_map, he, ld_ev, hel, ld_ev10, n1, n2, h8, ld_ev0, ld_ev1, go_sem]
       refine call_with (okGetR v e.rep) ?_
       simp (disch := omega) only [hq', ld_ev10, h8, go_sem]
       refine loop_next (k + 1) _ _ rfl (by omega) (by omega) ?_ ?_
       · simp (disch := omega) only [go_sem]
       · simp (disch := omega) only [hsn, zeroS, segS, segX, go_sem]
   by_cases h9 : e.kind = 9
   · have hs : bStep l (S, v) e = (retS S e, v) := by unfold bStep; rw [if_neg h12, if_neg h8, if_pos h9]
     rw [hs] at hsn
     have hS : retS S e = { S with ret := setV S.ret r true } := by unfold retS; rw [hre]; rfl
     rw [hS] at hsn
     have hsp := spl_ret S hr8 true (.sl false 15 (S.objs.map objE)) (.sl false 15 (S.ents.map entE))
     simp (disch := omega) only [stBdD, hX, List.length_map, he, ld_ev, hel, ld_ev10, n1, n2, h8, h9, ld_ev0, hre, segS, segX, hsp, go_sem]
     refine loop_next (k + 1) _ _ rfl (by omega) (by omega) ?_ ?_
     · simp (disch := omega) only [go_sem]
     · simp (disch := omega) only [hsn, zeroS, go_sem]
       exact st_seg { S with ret := setV S.ret r true }
   · have hs : bStep l (S, v) e = (S, v) := by unfold bStep; rw [if_neg h12, if_neg h8, if_neg h9]
     rw [hs] at hsn
     simp (disch := omega) only [stBdD, hX, List.length_map, he, ld_ev, hel, ld_ev10, n1, n2, h8, h9, go_sem]
     refine loop_next (k + 1) _ _ rfl (by omega) (by omega) ?_ ?_
     · simp (disch := omega) only [go_sem]
     · simp (disch := omega) only [hsn, zeroS, segS, segX, go_sem]
 obtain rfl : k = l.length := by omega
 have htk : l.take l.length = l := List.take_length
 simp (disch := omega) only [stBdD, zeroS, segS, segX, List.length_map, htk, buildS, go_sem]
set_option maxHeartbeats 16000000 in
theorem okBuildI9 {l : List Evt} {rk : Evt → Nat} {h d} (hE : EvsOk l rk) (hB : ∀ e ∈ l, 1 ≤ e.rep ∧ e.rep ≤ 8) (hg : h 900 = some (.row 21 (l.map evE))) : FunOk Tryz.prog 12 [.os 900] h d (.agg (segS (buildS l))) [.upd 900 (.row 21 (l.map evE))] := by
 refine fun_io1 (g := 900) mixed fn12 (by simp) (by simp [tops, tn]) (by simp [tops, tn]) hg rfl (by simp [Blk.ptr, SV.kill]) rfl (fun _ => rfl) fun F => ?_
 obtain ⟨f, hf⟩ : ∃ f : Bool, f = false := ⟨_, rfl⟩
 have hn := hE.len
 have hevs : ∀ e ∈ l, ev e := fun e he => (hE.ev e he).1
 simp (disch := omega) only [ir12, Blk.ptr, go_sem]
 refine call_with (okKnown (l := l) rfl rfl (by omega)) ?_
 simp (disch := omega) only [go_sem]
 refine call_with (okEntries (l := l) rfl rfl (by omega) hevs) ?_
 simp (disch := omega) only [go_sem]
 refine loop_ok mixed (stBdI f l) (fun k => k ≤ l.length) (fun k => l.length - k) 0 (by simp) (weak_mk ?_ ?_) fun k hk => ?_
 · simp (disch := omega) only [go_sem]
 · simp (disch := omega) only [bldP, List.take_zero, List.foldl_nil, zeroS, go_sem]
   exact ⟨seg_imp (s := ⟨knownG l, [], entsG l l, fun _ => 0, fun _ => false⟩) (.inl rfl) (.inr rfl) trivial (.refl _), rfl⟩
 by_cases hlt : k < l.length
 · have hx : l[k]? = some l[k] := List.getElem?_eq_getElem hlt
   have he : (l.map evE)[k]? = some (evE l[k]) := by rw [List.getElem?_map, hx]; rfl
   have ht := take_snoc hx
   have hsn := bldP_snoc l (l.take k) l[k]
   have hlk : (l.take k).length ≤ 400 := by simp; omega
   have hnd := hE.nod.take (k + 1)
   rw [← ht] at hsn
   rw [ht] at hnd
   have hrep := hB _ (List.getElem_mem hlt)
   generalize l[k] = e at *
   obtain ⟨hso, hol, hom⟩ := bld_objs (l := l) _ (l.take k) rfl (hE.nod.take k)
   have hel := evE_len e
   generalize hX : bldP l (l.take k) = X at *
   obtain ⟨S, v⟩ := X
   simp only at hso hol hom
   by_cases h12 : e.kind = 1 ∨ e.kind = 2
   · have hs : bStep l (S, v) e = ({ S with objs := insO S.objs (objB l l e) }, v) := by unfold bStep; rw [if_pos h12]
     rw [hs] at hsn
     have n8 : ¬ e.kind = 8 := by omega
     have n9 : ¬ e.kind = 9 := by omega
     have hoe := objE_len (objB l l e)
     have hoi := objB_id l e l
     have hnew : ∀ x ∈ S.objs, x.id ≠ evId e := fun x hx => by
      obtain ⟨f, hf, _, rfl⟩ := (hom x).1 hx
      rw [objB_id]
      unfold NodE at hnd
      rw [List.map_append, List.nodup_append] at hnd
      exact hnd.2.2 (evId f) (List.mem_map_of_mem hf) (evId e) (by simp)
     rcases h12 with h1 | h2
     · simp (disch := omega) only [stBdI, hX, List.length_map, he, ld_ev, hel, ld_ev10, h1, go_sem]
       refine call_with (okObjectI e hE rfl) ?_
       simp (disch := omega) only [hoe, segS, segX, List.length_map, zeroS, go_sem]
       generalize hO : objB l l e = o at *
       have hp0 := posO_le S.objs (evId e)
       refine loop_ok mixed (stBjI f l k e S v o) (fun j => posO S.objs (evId e) ≤ j ∧ j ≤ S.objs.length) (fun j => j) S.objs.length ⟨hp0, Nat.le_refl _⟩ (weak_mk ?_ ?_) fun j hj => ?_
       · simp (disch := omega) only [go_sem]
       · simp (disch := omega) only [segS, segX, zeroS, go_sem]
       obtain ⟨hj1, hj2⟩ := hj
       by_cases hj0 : j = 0
       · subst hj0
         have hjq : posO S.objs (evId e) = 0 := by omega
         simp (disch := omega) only [stBjI, segS, segX, zeroS, go_sem]
         have hT : (S.objs.map objE).take S.objs.length = S.objs.map objE := List.take_of_length_le (by simp)
         have hD : ((S.objs.map objE).drop 0).length = S.objs.length - 0 := by simp
         have hD2 : ((S.objs.map objE).take 0).length = 0 := by rw [List.length_take, List.length_map]; omega
         have hI : (S.objs.map objE).take 0 ++ objE o :: S.objs.map objE = (insO S.objs o).map objE := by
          unfold insO; rw [hoi, hjq]; simp [List.map_take, List.map_drop]
         refine any_now ?_
         simp (disch := omega) only [List.length_map, ld_obj, hoe, hT, hD, hD2, ld_ev10, n8, n9, go_sem]
         refine ⟨k + 1, by omega, by omega, wk_frz 70 rfl (weak_mk ?_ ?_)⟩
         · simp (disch := omega) only [go_sem]
         · simp (disch := omega) only [hI, hsn, segS, segX, zeroS, go_sem]
       · have hjx : j - 1 < S.objs.length := by omega
         have hx3 : S.objs[j - 1]? = some S.objs[j - 1] := List.getElem?_eq_getElem hjx
         have he3 : (S.objs.map objE)[j - 1]? = some (objE S.objs[j - 1]) := by rw [List.getElem?_map, hx3]; rfl
         have hmx := List.getElem_mem hjx
         have ejn : ((j : Int) - 1).toNat = j - 1 := by omega
         have hjp : (0 : Int) < j := by omega
         generalize S.objs[j - 1] = x at *
         simp (disch := omega) only [stBjI, segS, segX, zeroS, hjp, List.length_map, ejn, he3, ld_objId, go_sem]
         refine call_with (okLessR o.id.1 o.id.2 x.id.1 x.id.2) ?_
         by_cases hlx : idLt o.id.1 o.id.2 x.id.1 x.id.2 = true
         · simp (disch := omega) only [hlx, go_sem]
           refine loop_next (j - 1) _ _ rfl ⟨?_, by omega⟩ (by omega) ?_ ?_
           · have : ¬ posO S.objs (evId e) = j := fun q => ilt_as (posO_lt (i := evId e) (by omega) hx3) (by rw [← hoi]; exact hlx)
             omega
           · simp (disch := omega) only [go_sem]
           · simp (disch := omega) only [segS, segX, zeroS, go_sem]
         · have hlx' : idLt o.id.1 o.id.2 x.id.1 x.id.2 = false := by simpa using hlx
           have hjq : posO S.objs (evId e) = j := by
            have h3 : ilt x.id (evId e) = true := by
             rw [hoi] at hlx
             exact ilt_tot hlx (fun q => hnew x hmx q.symm)
            have : ¬ posO S.objs (evId e) ≤ j - 1 := fun q => posO_ge hso q hx3 h3
            omega
           simp (disch := omega) only [hlx', go_sem]
           have hT : (S.objs.map objE).take S.objs.length = S.objs.map objE := List.take_of_length_le (by simp)
           have hD : ((S.objs.map objE).drop j).length = S.objs.length - j := by simp
           have hD2 : ((S.objs.map objE).take j).length = j := by rw [List.length_take, List.length_map]; omega
           have hI : (S.objs.map objE).take j ++ objE o :: (S.objs.map objE).drop j = (insO S.objs o).map objE := by
            unfold insO; rw [hoi, hjq]; simp [List.map_take, List.map_drop]
           refine any_now ?_
           simp (disch := omega) only [List.length_map, ld_obj, hoe, hT, hD, hD2, ld_ev10, n8, n9, go_sem]
           refine ⟨k + 1, by omega, by omega, wk_frz 70 rfl (weak_mk ?_ ?_)⟩
           · simp (disch := omega) only [go_sem]
           · simp (disch := omega) only [hI, hsn, segS, segX, zeroS, go_sem]
     · have n1 : ¬ e.kind = 1 := by omega
       simp (disch := omega) only [stBdI, hX, List.length_map, he, ld_ev, hel, ld_ev10, n1, h2, go_sem]
       refine call_with (okObjectI e hE rfl) ?_
       simp (disch := omega) only [hoe, segS, segX, List.length_map, zeroS, go_sem]
       generalize hO : objB l l e = o at *
       have hp0 := posO_le S.objs (evId e)
       refine loop_ok mixed (stBjI f l k e S v o) (fun j => posO S.objs (evId e) ≤ j ∧ j ≤ S.objs.length) (fun j => j) S.objs.length ⟨hp0, Nat.le_refl _⟩ (weak_mk ?_ ?_) fun j hj => ?_
       · simp (disch := omega) only [go_sem]
       · simp (disch := omega) only [segS, segX, zeroS, go_sem]
       obtain ⟨hj1, hj2⟩ := hj
       by_cases hj0 : j = 0
       · subst hj0
         have hjq : posO S.objs (evId e) = 0 := by omega
         simp (disch := omega) only [stBjI, segS, segX, zeroS, go_sem]
         have hT : (S.objs.map objE).take S.objs.length = S.objs.map objE := List.take_of_length_le (by simp)
         have hD : ((S.objs.map objE).drop 0).length = S.objs.length - 0 := by simp
         have hD2 : ((S.objs.map objE).take 0).length = 0 := by rw [List.length_take, List.length_map]; omega
         have hI : (S.objs.map objE).take 0 ++ objE o :: S.objs.map objE = (insO S.objs o).map objE := by
          unfold insO; rw [hoi, hjq]; simp [List.map_take, List.map_drop]
         refine any_now ?_
         simp (disch := omega) only [List.length_map, ld_obj, hoe, hT, hD, hD2, ld_ev10, n8, n9, go_sem]
         refine ⟨k + 1, by omega, by omega, wk_frz 70 rfl (weak_mk ?_ ?_)⟩
         · simp (disch := omega) only [go_sem]
         · simp (disch := omega) only [hI, hsn, segS, segX, zeroS, go_sem]
       · have hjx : j - 1 < S.objs.length := by omega
         have hx3 : S.objs[j - 1]? = some S.objs[j - 1] := List.getElem?_eq_getElem hjx
         have he3 : (S.objs.map objE)[j - 1]? = some (objE S.objs[j - 1]) := by rw [List.getElem?_map, hx3]; rfl
         have hmx := List.getElem_mem hjx
         have ejn : ((j : Int) - 1).toNat = j - 1 := by omega
         have hjp : (0 : Int) < j := by omega
         generalize S.objs[j - 1] = x at *
         simp (disch := omega) only [stBjI, segS, segX, zeroS, hjp, List.length_map, ejn, he3, ld_objId, go_sem]
         refine call_with (okLessR o.id.1 o.id.2 x.id.1 x.id.2) ?_
         by_cases hlx : idLt o.id.1 o.id.2 x.id.1 x.id.2 = true
         · simp (disch := omega) only [hlx, go_sem]
           refine loop_next (j - 1) _ _ rfl ⟨?_, by omega⟩ (by omega) ?_ ?_
           · have : ¬ posO S.objs (evId e) = j := fun q => ilt_as (posO_lt (i := evId e) (by omega) hx3) (by rw [← hoi]; exact hlx)
             omega
           · simp (disch := omega) only [go_sem]
           · simp (disch := omega) only [segS, segX, zeroS, go_sem]
         · have hlx' : idLt o.id.1 o.id.2 x.id.1 x.id.2 = false := by simpa using hlx
           have hjq : posO S.objs (evId e) = j := by
            have h3 : ilt x.id (evId e) = true := by
             rw [hoi] at hlx
             exact ilt_tot hlx (fun q => hnew x hmx q.symm)
            have : ¬ posO S.objs (evId e) ≤ j - 1 := fun q => posO_ge hso q hx3 h3
            omega
           simp (disch := omega) only [hlx', go_sem]
           have hT : (S.objs.map objE).take S.objs.length = S.objs.map objE := List.take_of_length_le (by simp)
           have hD : ((S.objs.map objE).drop j).length = S.objs.length - j := by simp
           have hD2 : ((S.objs.map objE).take j).length = j := by rw [List.length_take, List.length_map]; omega
           have hI : (S.objs.map objE).take j ++ objE o :: (S.objs.map objE).drop j = (insO S.objs o).map objE := by
            unfold insO; rw [hoi, hjq]; simp [List.map_take, List.map_drop]
           refine any_now ?_
           simp (disch := omega) only [List.length_map, ld_obj, hoe, hT, hD, hD2, ld_ev10, n8, n9, go_sem]
           refine ⟨k + 1, by omega, by omega, wk_frz 70 rfl (weak_mk ?_ ?_)⟩
           · simp (disch := omega) only [go_sem]
           · simp (disch := omega) only [hI, hsn, segS, segX, zeroS, go_sem]
   have n1 : ¬ e.kind = 1 := fun h => h12 (.inl h)
   have n2 : ¬ e.kind = 2 := fun h => h12 (.inr h)
   obtain ⟨r, hr8, hre⟩ : ∃ r : Nat, r < 8 ∧ e.rep - 1 = r := ⟨(e.rep - 1).toNat, by omega, by omega⟩
   by_cases h8 : e.kind = 8
   · have n9 : ¬ e.kind = 9 := by omega
     by_cases hq : getV v e.rep < e.seq
     · have hs : bStep l (S, v) e = (seatS S e, withV v e.rep e.seq) := by unfold bStep; rw [if_neg h12, if_pos h8]; exact if_pos hq
       rw [hs] at hsn
       have hS : seatS S e = { S with wards := setV S.wards r e.ward } := by unfold seatS; rw [hre]; rfl
       rw [hS] at hsn
       have hsp := spl_ward S hr8 e.ward (.sl false 15 (S.objs.map objE)) (.sl false 15 (S.ents.map entE))
       have hq' : ((getV v e.rep : Nat) : Int) < (e.seq : Int) := by omega
       have hvl := vE_length (withV v e.rep e.seq)
       simp (disch := omega) only [stBdI, hX, List.length_map, he, ld_ev, hel, ld_ev10, n1, n2, h8, ld_ev0, ld_ev1, go_sem]
       refine call_with (okGetR v e.rep) ?_
       simp (disch := omega) only [hq', ld_evId, go_sem]
       refine call_with (okWithR' _ _ _) ?_
       simp (disch := omega) only [hvl, ld_ev0, hre, ld_ev20, segS, segX, hsp, ld_ev10, h8, go_sem]
       refine loop_next (k + 1) _ _ rfl (by omega) (by omega) ?_ ?_
       · simp (disch := omega) only [go_sem]
       · simp (disch := omega) only [hsn, zeroS, go_sem]
         exact ⟨st_seg { S with wards := setV S.wards r e.ward }, rfl⟩
     · have hs : bStep l (S, v) e = (S, v) := by unfold bStep; rw [if_neg h12, if_pos h8]; exact if_neg hq
       rw [hs] at hsn
       have hq' : ¬ ((getV v e.rep : Nat) : Int) < (e.seq : Int) := by omega
       simp (disch := omega) only [stBdI, hX, List.length_map, he, ld_ev, hel, ld_ev10, n1, n2, h8, ld_ev0, ld_ev1, go_sem]
       refine call_with (okGetR v e.rep) ?_
       simp (disch := omega) only [hq', ld_ev10, h8, go_sem]
       refine loop_next (k + 1) _ _ rfl (by omega) (by omega) ?_ ?_
       · simp (disch := omega) only [go_sem]
       · simp (disch := omega) only [hsn, zeroS, segS, segX, go_sem]
   by_cases h9 : e.kind = 9
   · have hs : bStep l (S, v) e = (retS S e, v) := by unfold bStep; rw [if_neg h12, if_neg h8, if_pos h9]
     rw [hs] at hsn
     have hS : retS S e = { S with ret := setV S.ret r true } := by unfold retS; rw [hre]; rfl
     rw [hS] at hsn
     have hsp := spl_ret S hr8 true (.sl false 15 (S.objs.map objE)) (.sl false 15 (S.ents.map entE))
     simp (disch := omega) only [stBdI, hX, List.length_map, he, ld_ev, hel, ld_ev10, n1, n2, h8, h9, ld_ev0, hre, segS, segX, hsp, go_sem]
     refine loop_next (k + 1) _ _ rfl (by omega) (by omega) ?_ ?_
     · simp (disch := omega) only [go_sem]
     · simp (disch := omega) only [hsn, zeroS, go_sem]
       exact st_seg { S with ret := setV S.ret r true }
   · have hs : bStep l (S, v) e = (S, v) := by unfold bStep; rw [if_neg h12, if_neg h8, if_neg h9]
     rw [hs] at hsn
     simp (disch := omega) only [stBdI, hX, List.length_map, he, ld_ev, hel, ld_ev10, n1, n2, h8, h9, go_sem]
     refine loop_next (k + 1) _ _ rfl (by omega) (by omega) ?_ ?_
     · simp (disch := omega) only [go_sem]
     · simp (disch := omega) only [hsn, zeroS, segS, segX, go_sem]
 obtain rfl : k = l.length := by omega
 have htk : l.take l.length = l := List.take_length
 simp (disch := omega) only [stBdI, zeroS, segS, segX, List.length_map, htk, buildS, go_sem]
 refine deep_end ?_
 simp (disch := omega) only [go_sem]
theorem okBuildI {l : List Evt} {rk : Evt → Nat} {h d g} (hE : EvsOk l rk) (hB : ∀ e ∈ l, 1 ≤ e.rep ∧ e.rep ≤ 8) (hg : h g = some (.row 21 (l.map evE))) : FunOk Tryz.prog 12 [.os g] h d (.agg (segS (buildS l))) [] :=
 FunOk.ioRow (fun h d hg => okBuildI9 hE hB hg) rfl rfl hg
theorem objAt_find {l : List Obj} (hs : SortO l) (i : Idn) : objAt l i = l.find? fun o => decide (o.id = i) := by
 cases h : objAt l i with
 | some o =>
   obtain ⟨h1, h2⟩ := objAt_some h
   symm
   obtain ⟨hlt, hg⟩ := List.getElem?_eq_some_iff.1 h1
   rw [List.find?_eq_some_iff_getElem]
   refine ⟨by simpa using h2, posO l i, hlt, hg, fun j hj => ?_⟩
   have := posO_lt hj (List.getElem?_eq_getElem (by omega))
   simp only [Bool.not_eq_true', decide_eq_false_iff_not]
   intro q
   rw [q] at this
   exact ilt_irr this
 | none =>
   symm
   rw [List.find?_eq_none]
   intro x hx q
   have q : x.id = i := by simpa using q
   obtain ⟨j, hj⟩ := List.mem_iff_getElem?.1 hx
   have h1 : ¬ j < posO l i := fun hq => by
    have := posO_lt hq hj
    rw [q] at this; exact ilt_irr this
   by_cases e : j = posO l i
   · unfold objAt at h
     rw [← e, hj] at h
     simp only at h
     rw [if_pos q] at h; cases h
   · have hlt := (List.getElem?_eq_some_iff.1 hj).1
     have hp : posO l i < l.length := by omega
     have hy : l[posO l i]? = some l[posO l i] := List.getElem?_eq_getElem hp
     have h3 := sortO_get hs hy hj (by omega)
     rw [q] at h3
     exact posO_ge hs (Nat.le_refl _) hy h3
def stOb12 (s : St) (i : Idn) (z : SV) (k : Nat) : FS := mk [(6, .pv (.i .i64 k)), (2, .p 2 0), (3, .p 3 0), (4, .p 4 0)] [(2, some (.var (.agg (segS s)))), (3, some (.var (.vec 2 [.i .i64 i.1, .i .u32 i.2]))), (4, some (.var z))]
def obj0 : Obj := ⟨(0, 0), false, (0, 0), [], fun _ => 0, []⟩
theorem imp_obj0' : Imp (.agg [.pv (.i .i64 0), .pv (.i .u32 0), .pv (.b false), .pv (.i .i64 0), .pv (.i .u32 0), .pv (.s []), .vec 8 (vE fun _ => 0), .pv (.sl true 0 [])]) (.vec 15 (objE obj0)) :=
 fun V ρ v h => imp_cells (obj_imp obj0 (.inl rfl)) V ρ v (imp_agg (n := 15) (cs := objF true 0 obj0) (by rfl) (objF_len _ _ _) V ρ v h)
set_option maxHeartbeats 1000000 in
theorem okObj12 {s : St} (i : Idn) (hs : SortO s.objs) {h d} (hn : s.objs.length ≤ 1000) : FunOk Tryz.prog 16 [.agg (segS s), .vec 2 [.i .i64 i.1, .i .u32 i.2]] h d (.tup [.vec 15 (objE ((objAt s.objs i).getD obj0)), .pv (.b (objAt s.objs i).isSome)]) [] := by
 refine fun_pureI mixed fn16 (by simp) rfl rfl fun F => ?_
 simp (disch := omega) only [ir16, segS, segX, go_sem]
 refine loop_ok mixed (stOb12 s i zeroO) (fun k => k ≤ s.objs.length ∧ ∀ j x, j < k → s.objs[j]? = some x → x.id ≠ i) (fun k => s.objs.length - k) 0 ⟨by simp, fun j x hj => absurd hj (Nat.not_lt_zero j)⟩ (weak_mk ?_ ?_) fun k hk => ?_
 · simp (disch := omega) only [go_sem]
 · simp (disch := omega) only [zeroO, segS, segX, go_sem]
 obtain ⟨hk1, hk2⟩ := hk
 rw [objAt_find hs]
 by_cases hlt : k < s.objs.length
 · have hx : s.objs[k]? = some s.objs[k] := List.getElem?_eq_getElem hlt
   have he : (s.objs.map objE)[k]? = some (objE s.objs[k]) := by rw [List.getElem?_map, hx]; rfl
   have hgk : s.objs[k] = s.objs[k] := rfl
   generalize hO : s.objs[k] = o at *
   have hol := objE_len o
   by_cases hb : o.id = i
   · have hp := peqI_t hb
     have hf : s.objs.find? (fun o => decide (o.id = i)) = some o := by
      rw [List.find?_eq_some_iff_getElem]
      refine ⟨by simpa using hb, k, hlt, hO, fun j hj => ?_⟩
      simpa using hk2 j _ hj (List.getElem?_eq_getElem (by omega))
     rw [hf]
     simp (disch := omega) only [stOb12, zeroO, segS, segX, List.length_map, he, ld_objId, fits_id, fitsId2, hp, ld_obj, hol, go_sem]
     refine deep_end ?_
     simp (disch := omega) only [go_sem]
     exact Imp.refl _
   · have hp := peqI_f hb
     simp (disch := omega) only [stOb12, zeroO, segS, segX, List.length_map, he, ld_objId, fits_id, fitsId2, hp, go_sem]
     refine loop_next (k + 1) _ _ rfl ⟨by omega, fun j x hj hjx => ?_⟩ (by omega) ?_ ?_
     · by_cases ej : j = k
       · subst ej; rw [hx] at hjx; cases hjx; exact hb
       · exact hk2 j x (by omega) hjx
     · simp (disch := omega) only [go_sem]
     · simp (disch := omega) only [zeroO, segS, segX, go_sem]
 · obtain rfl : k = s.objs.length := by omega
   have hf : s.objs.find? (fun o => decide (o.id = i)) = none := by
    rw [List.find?_eq_none]
    intro x hx
    obtain ⟨j, hj⟩ := List.mem_iff_getElem?.1 hx
    simpa using hk2 j x (List.getElem?_eq_some_iff.1 hj).1 hj
   rw [hf]
   simp (disch := omega) only [stOb12, zeroO, segS, segX, List.length_map, go_sem]
   refine deep_end ?_
   simp (disch := omega) only [go_sem]
   exact tup_imp imp_obj0'
theorem okDir12 {s : St} (i : Idn) (hs : SortO s.objs) {h d} (hn : s.objs.length ≤ 1000) : FunOk Tryz.prog 26 [.agg (segS s), .vec 2 [.i .i64 i.1, .i .u32 i.2]] h d (.pv (.i .i64 (dirW s.objs i))) [] := by
 refine fun_pure mixed fn26 (by simp) rfl rfl fun F => ?_
 have hd := dirW_objAt (l := s.objs) i
 have ho := okObj12 (s := s) i hs hn (h := fun _ => none) (d := 0)
 rw [show segS s = [.vec 8 (vE s.known), .pv (.sl false 15 (s.objs.map objE)), .pv (.sl false 15 (s.ents.map entE)), .vec 8 (iE s.wards), .vec 8 (wE s.ret)] from rfl] at ho
 simp (disch := omega) only [ir26, segS, segX, go_sem]
 refine call_with (okZero12 _ _) ?_
 by_cases h0 : i = (0, 0)
 · have hz : zeroB i.1 i.2 = true := decide_eq_true (zero_idn h0)
   rw [if_pos h0] at hd
   simp (disch := omega) only [hz, hd, go_sem]
 · have hz : zeroB i.1 i.2 = false := decide_eq_false fun e => h0 (Prod.ext e.1 e.2)
   rw [if_neg h0] at hd
   simp (disch := omega) only [hz, go_sem]
   refine call_with (ho.at (by simp [tops, tn])) ?_
   cases hA : objAt s.objs i with
   | none =>
     rw [hA] at hd
     simp only at hd
     have hol := objE_len obj0
     simp (disch := omega) only [Option.isSome_none, hol, hd, go_sem]
   | some o =>
     rw [hA] at hd
     simp only at hd
     have hol := objE_len o
     by_cases hdd : o.dir = true
     · rw [if_pos hdd] at hd
       simp (disch := omega) only [Option.isSome_some, Option.getD_some, hol, ld_objDir, hdd, hd, go_sem]
     · have hdd' : o.dir = false := by simpa using hdd
       rw [if_neg hdd] at hd
       simp (disch := omega) only [Option.isSome_some, Option.getD_some, hol, ld_objDir, hdd', hd, go_sem]
theorem check_base1 {e : Evt} (h : checkB e = true) (hk : e.kind = 3 ∨ e.kind = 4 ∨ e.kind = 5) : ∀ b ∈ e.base.l, hasB e.dep b.1 b.2 = true := by
 unfold checkB at h
 simp only [Bool.and_eq_true, decide_eq_true_eq] at h
 have hK := h.2.2.2
 have key : ∀ m, idsB e.base.l m e.dep = true → ∀ b ∈ e.base.l, hasB e.dep b.1 b.2 = true := fun m hm b hb => by
  unfold idsB riseB at hm
  simp only [Bool.and_eq_true, decide_eq_true_eq] at hm
  obtain ⟨j, hj⟩ := List.mem_iff_getElem?.1 hb
  obtain ⟨hlt, hg⟩ := List.getElem?_eq_some_iff.1 hj
  have := (hm.2 j hlt).1
  rw [hg] at this; exact this
 rcases hk with h3 | h3 | h3
 · rw [kindK_3 h3] at hK
   simp only [Bool.and_eq_true] at hK
   exact key _ hK.2.1
 · rw [kindK_4 h3] at hK
   simp only [Bool.and_eq_true] at hK
   exact key _ hK.2.1
 · rw [kindK_5 h3] at hK
   simp only [Bool.and_eq_true] at hK
   exact key _ hK.2.1
theorem hasB_pos {a : Vc} {r : Int} {q : Nat} (h : hasB a r q = true) : 1 ≤ q ∧ 1 ≤ r ∧ r ≤ 8 ∧ q ≤ a (r - 1).toNat := by
 unfold hasB getV at h
 simp only [decide_eq_true_eq] at h
 by_cases hr : 1 ≤ r ∧ r ≤ 8
 · rw [if_pos hr] at h; exact ⟨h.1, hr.1, hr.2, h.2⟩
 · rw [if_neg hr] at h; omega
def stWhy (s : St) (e : Evt) (o : Obj) (k : Nat) : FS := mk [(7, .pv (.i .i64 k)), (2, .p 2 0), (3, .p 3 0), (5, .p 5 0), (4, .pv (.i .i64 0))] [(2, some (.var (.agg (segS s)))), (3, some (.var (.vec 21 (evE e)))), (5, some (.var (.vec 15 (objE o))))]
set_option maxHeartbeats 8000000 in
theorem okWhy {s : St} {e : Evt} (hs : StIn s) (he : ev e) (hdep : ∀ i, i < 8 → e.dep i < 4294967296) {h d} : FunOk Tryz.prog 11 [.agg (segS s), .vec 21 (evE e)] h d (.pv (.i .i64 (whyS s e))) [] := by
 refine fun_pure mixed fn11 (by simp) rfl rfl fun F => ?_
 have a1 := hs.fine.on
 have hS : segS s = [.vec 8 (vE s.known), .pv (.sl false 15 (s.objs.map objE)), .pv (.sl false 15 (s.ents.map entE)), .vec 8 (iE s.wards), .vec 8 (wE s.ret)] := rfl
 have hO := okObj12 (s := s) (evObj e) hs.so (by omega) (h := fun _ => none) (d := 0)
 have hD := okDir12 (s := s) (evDir e) hs.so (by omega) (h := fun _ => none) (d := 0)
 rw [hS] at hO hD
 simp (disch := omega) only [ir11, segS, segX, ld_ev, go_sem]
 refine call_with (okCheckR e he hdep) ?_
 by_cases hc' : checkB e = false
 · have hw : whyS s e = 7 := if_pos hc'
   simp (disch := omega) only [hc', hw, go_sem]
 have hc : checkB e = true := by simpa using hc'
 have hb := check_base hc
 obtain ⟨b1, b2, b3, b4, b5, b6, b7⟩ := hb
 simp (disch := omega) only [hc, ld_evId, ld_evDep, go_sem]
 refine call_with (okHasR _ _ _) ?_
 by_cases h1 : hasB s.known e.rep e.seq = true
 · have hw : whyS s e = 11 := by unfold whyS; rw [if_neg hc', if_pos h1]
   simp (disch := omega) only [h1, hw, go_sem]
 have h1' : hasB s.known e.rep e.seq = false := by simpa using h1
 simp (disch := omega) only [h1', ld_evDep, go_sem]
 refine call_with (okLeqR _ _) ?_
 by_cases h2 : vLe e.dep s.known
 rotate_left
 · have hw : whyS s e = 10 := by unfold whyS; rw [if_neg hc', if_neg h1, if_pos h2]
   have h2' := decide_eq_false h2
   simp (disch := omega) only [h2', hw, go_sem]
 have h2' := decide_eq_true h2
 obtain ⟨k, hk8, hre⟩ : ∃ k : Nat, k < 8 ∧ e.rep - 1 = k := ⟨(e.rep - 1).toNat, by omega, by omega⟩
 have hld := fun (a b : PV) (w : Nat → Int) (r : Nat → Bool) (K : KK) => ld_retS a b w r hk8 K
 simp (disch := omega) only [h2', ld_ev0, hre, hld, go_sem]
 by_cases h3 : s.ret k = true
 · have hw : whyS s e = 28 := by unfold whyS; rw [if_neg hc', if_neg h1, if_neg (by simpa using h2), if_pos (by rw [hre]; exact h3)]
   simp (disch := omega) only [h3, hw, go_sem]
 have h3' : s.ret k = false := by simpa using h3
 have hw : whyS s e = whyD s e := by unfold whyS; rw [if_neg hc', if_neg h1, if_neg (by simpa using h2), if_neg (by rw [hre]; exact h3)]
 unfold whyD at hw
 by_cases h89 : e.kind = 8 ∨ e.kind = 9
 · rw [if_pos h89] at hw
   rcases h89 with h8 | h9
   · simp (disch := omega) only [h3', ld_ev10, h8, hw, go_sem]
   · have n8 : ¬ e.kind = 8 := by omega
     simp (disch := omega) only [h3', ld_ev10, n8, h9, hw, go_sem]
 rw [if_neg h89] at hw
 have n8 : ¬ e.kind = 8 := fun q => h89 (.inl q)
 have n9 : ¬ e.kind = 9 := fun q => h89 (.inr q)
 by_cases h12 : e.kind = 1 ∨ e.kind = 2
 · rw [if_pos h12] at hw
   rcases h12 with h1k | h2k
   · simp (disch := omega) only [h3', ld_ev10, n8, n9, h1k, ld_evDir, go_sem]
     refine call_with (hD.at (by simp [tops, tn])) ?_
     simp (disch := omega) only [hw, go_sem]
   · have n1 : ¬ e.kind = 1 := by omega
     simp (disch := omega) only [h3', ld_ev10, n8, n9, n1, h2k, ld_evDir, go_sem]
     refine call_with (hD.at (by simp [tops, tn])) ?_
     simp (disch := omega) only [hw, go_sem]
 rw [if_neg h12] at hw
 have n1 : ¬ e.kind = 1 := fun q => h12 (.inl q)
 have n2 : ¬ e.kind = 2 := fun q => h12 (.inr q)
 simp (disch := omega) only [h3', ld_ev10, n8, n9, n1, n2, ld_evObj, go_sem]
 refine call_with (hO.at (by simp [tops, tn])) ?_
 cases hA : objAt s.objs (evObj e) with
 | none =>
   rw [hA] at hw
   simp only at hw
   have hol := objE_len obj0
   simp (disch := omega) only [Option.isSome_none, Option.getD_none, hol, hw, go_sem]
 | some o =>
   rw [hA] at hw
   simp only at hw
   have hol := objE_len o
   by_cases h7 : e.kind = 7
   · rw [if_pos h7] at hw
     simp (disch := omega) only [Option.isSome_some, Option.getD_some, hol, ld_ev10, h7, ld_evDir, go_sem]
     refine call_with (hD.at (by simp [tops, tn])) ?_
     simp (disch := omega) only [hw, go_sem]
   rw [if_neg h7] at hw
   by_cases h6 : e.kind = 6
   · rw [if_pos h6] at hw
     simp (disch := omega) only [Option.isSome_some, Option.getD_some, hol, ld_ev10, h7, h6, hw, go_sem]
   rw [if_neg h6] at hw
   by_cases hd : o.dir = true
   · rw [if_pos hd] at hw
     simp (disch := omega) only [Option.isSome_some, Option.getD_some, hol, ld_ev10, h7, h6, ld_objDir, hd, hw, go_sem]
   rw [if_neg hd] at hw
   have hd' : o.dir = false := by simpa using hd
   have hk345 : e.kind = 3 ∨ e.kind = 4 ∨ e.kind = 5 := by omega
   have hb1 := check_base1 hc hk345
   have hbl := check_baselen hc hk345
   have hom := List.mem_of_getElem? (objAt_some hA).1
   have hov := hs.fine.ov o hom
   have hpv : e.base.pv = .sl e.base.f e.base.z (e.base.l.map idE) := rfl
   simp (disch := omega) only [Option.isSome_some, Option.getD_some, hol, ld_ev10, h7, h6, ld_objDir, hd', go_sem]
   refine loop_ok mixed (stWhy s e o) (fun k => k ≤ e.base.l.length ∧ ∀ j b, j < k → e.base.l[j]? = some b → findV o.vers b.1 b.2 ≠ none) (fun k => e.base.l.length - k) 0 ⟨by simp, fun j b hj => absurd hj (Nat.not_lt_zero j)⟩ (weak_mk ?_ ?_) fun k hk => ?_
   · simp (disch := omega) only [go_sem]
   · simp (disch := omega) only [segS, segX, go_sem]
   obtain ⟨hk1, hk2⟩ := hk
   by_cases hlt : k < e.base.l.length
   · have hx : e.base.l[k]? = some e.base.l[k] := List.getElem?_eq_getElem hlt
     have hel : (e.base.l.map idE)[k]? = some (idE e.base.l[k]) := by rw [List.getElem?_map, hx]; rfl
     have hz2 : e.base.z = 2 := he.2.1.resolve_left fun q => by rw [q] at hlt; simp at hlt
     have hbm := List.getElem_mem hlt
     have hbz := hasB_pos (hb1 _ hbm)
     generalize e.base.l[k] = b at *
     have hnz : ¬ (b.1 = 0 ∧ b.2 = 0) := by omega
     simp (disch := omega) only [stWhy, segS, segX, ld_ev17, hpv, List.length_map, hz2, hel, ld_idW, ld_objVers, go_sem]
     refine call_with (okDataR (l := o.vers) b.1 b.2 rfl rfl (by omega)) ?_
     cases hf : findV o.vers b.1 b.2 with
     | none =>
       have hm : missing o.vers e.base.l := ⟨b, hbm, hf⟩
       rw [if_pos hm] at hw
       have hdv := dataV_n hnz hf
       simp (disch := omega) only [hdv, hw, go_sem]
     | some v =>
       have hdv := dataV_s hnz hf
       simp (disch := omega) only [hdv, go_sem]
       refine loop_next (k + 1) _ _ rfl ⟨by omega, fun j c hj hjc => ?_⟩ (by omega) ?_ ?_
       · by_cases ej : j = k
         · subst ej; rw [hx] at hjc; cases hjc; rw [hf]; simp
         · exact hk2 j c (by omega) hjc
       · simp (disch := omega) only [go_sem]
       · simp (disch := omega) only [segS, segX, go_sem]
   · obtain rfl : k = e.base.l.length := by omega
     have hm : ¬ missing o.vers e.base.l := fun ⟨b, hbm, hf⟩ => by
      obtain ⟨j, hj⟩ := List.mem_iff_getElem?.1 hbm
      exact hk2 j b (List.getElem?_eq_some_iff.1 hj).1 hj hf
     rw [if_neg hm] at hw
     simp (disch := omega) only [stWhy, segS, segX, ld_ev17, hpv, List.length_map, hw, go_sem]
def vid (v : Ver) : Idn := (v.rep, v.seq)
def markB (bs : List Idn) (r : Int) (q : Nat) (x : Ver) : Ver := if (x.rep, x.seq) ∈ bs then markV x r q else x
theorem markL_e (l : List Ver) (bs : List Idn) (r : Int) (q : Nat) : markL l bs r q = l.map (markB bs r q) := rfl
theorem markB_id (bs : List Idn) (r : Int) (q : Nat) (x : Ver) : vid (markB bs r q x) = vid x := by
 have := mark_id x bs r q
 simp only [vid, markB, this.1, this.2]
theorem mem_addL {l : List Ver} {bs : List Idn} {v x : Ver} : x ∈ addLV l bs v ↔ x = v ∨ ∃ y ∈ l, x = markB bs v.rep v.seq y := by
 unfold addLV
 rw [markL_e]
 have h : ∀ p, x ∈ (l.map (markB bs v.rep v.seq)).take p ++ v :: (l.map (markB bs v.rep v.seq)).drop p ↔ x = v ∨ x ∈ l.map (markB bs v.rep v.seq) := fun p => by
  conv => rhs; rw [← List.take_append_drop p (l.map (markB bs v.rep v.seq))]
  simp only [List.mem_append, List.mem_cons]
  constructor
  · rintro (h | h | h)
    · exact .inr (.inl h)
    · exact .inl h
    · exact .inr (.inr h)
  · rintro (h | h | h)
    · exact .inr (.inl h)
    · exact .inl h
    · exact .inr (.inr h)
 rw [h, List.mem_map]
 exact or_congr_right ⟨fun ⟨y, h1, h2⟩ => ⟨y, h1, h2.symm⟩, fun ⟨y, h1, h2⟩ => ⟨y, h1, h2.symm⟩⟩
theorem addL_len (l : List Ver) (bs : List Idn) (v : Ver) : (addLV l bs v).length = l.length + 1 := by
 simp only [addLV, List.length_append, List.length_cons, List.length_take, List.length_drop, markL_len]; omega
theorem atL_none {l : List Ver} {r : Int} {q : Nat} (h : findV l r q = none) : ∃ p, atL l r q 0 = (p, false) := by
 rcases ha : atL l r q 0 with ⟨p, b⟩
 cases b with
 | false => exact ⟨p, rfl⟩
 | true => obtain ⟨_, u, _, _, h4⟩ := atL_true ha; rw [h] at h4; cases h4
theorem addL_sorted {l : List Ver} {bs : List Idn} {v : Ver} (hs : SortedV l) (h : findV l v.rep v.seq = none) : SortedV (addLV l bs v) := by
 obtain ⟨p, hp⟩ := atL_none h
 obtain ⟨_, g2, g3, g4, g5, g6⟩ := atL_false hs hp
 rw [Nat.sub_zero] at g2 g5 g6
 have hM := markL_sorted (bs := bs) (r := v.rep) (q := v.seq) hs
 unfold addLV
 rw [hp]
 simp only
 have h5 : ∀ x ∈ (markL l bs v.rep v.seq).take p, idLt x.rep x.seq v.rep v.seq = true := fun x hx => by
  rw [markL_e, ← List.map_take] at hx
  obtain ⟨y, hy, rfl⟩ := List.mem_map.1 hx
  have := markB_id bs v.rep v.seq y
  simp only [vid, Prod.mk.injEq] at this
  rw [this.1, this.2]; exact g5 y hy
 have h6 : ∀ x ∈ (markL l bs v.rep v.seq).drop p, idLt v.rep v.seq x.rep x.seq = true := fun x hx => by
  rw [markL_e, ← List.map_drop] at hx
  obtain ⟨y, hy, rfl⟩ := List.mem_map.1 hx
  have := markB_id bs v.rep v.seq y
  simp only [vid, Prod.mk.injEq] at this
  rw [this.1, this.2]; exact g6 y hy
 refine List.pairwise_append.2 ⟨List.Pairwise.sublist (List.take_sublist _ _) hM, List.pairwise_cons.2 ⟨h6, List.Pairwise.sublist (List.drop_sublist _ _) hM⟩, fun a ha b hb => ?_⟩
 rcases List.mem_cons.1 hb with rfl | hb
 · exact h5 a ha
 · exact idLt_trans (h5 a ha) (h6 b hb)
theorem snocR {α : Type} {P : List α → Prop} (h0 : P []) (h1 : ∀ l a, P l → P (l ++ [a])) : ∀ l, P l := by
 have key : ∀ n, ∀ l : List α, l.length = n → P l := by
  intro n
  induction n with
  | zero => intro l hl; rw [List.eq_nil_of_length_eq_zero hl]; exact h0
  | succ n ih =>
    intro l hl
    have hne : l ≠ [] := fun e => by subst e; simp at hl
    rw [← List.dropLast_concat_getLast hne]
    exact h1 _ _ (ih _ (by simp [hl]))
 exact fun l => key _ l rfl
theorem pw_ext {α : Type} {r : α → α → Prop} (ha : ∀ a b, r a b → r b a → False) : ∀ {l m : List α}, l.Pairwise r → m.Pairwise r → (∀ a, a ∈ l ↔ a ∈ m) → l = m
 | [], [], _, _, _ => rfl
 | [], y :: m, _, _, h => by have := (h y).2 List.mem_cons_self; cases this
 | x :: l, [], _, _, h => by have := (h x).1 List.mem_cons_self; cases this
 | x :: l, y :: m, hl, hm, h => by
   obtain ⟨h1, h2⟩ := List.pairwise_cons.1 hl
   obtain ⟨k1, k2⟩ := List.pairwise_cons.1 hm
   have ex : x = y := by
    rcases List.mem_cons.1 ((h x).1 List.mem_cons_self) with a | a
    · exact a
    · rcases List.mem_cons.1 ((h y).2 List.mem_cons_self) with b | b
      · exact b.symm
      · exact (ha _ _ (h1 y b) (k1 x a)).elim
   subst ex
   congr 1
   refine pw_ext ha h2 k2 fun a => ?_
   have ne : ∀ {n : List α}, (∀ b ∈ n, r x b) → x ∉ n := fun hn hx => ha x x (hn x hx) (hn x hx)
   constructor
   · intro hq
     rcases List.mem_cons.1 ((h a).1 (List.mem_cons_of_mem _ hq)) with e | e
     · subst e; exact absurd hq (ne h1)
     · exact e
   · intro hq
     rcases List.mem_cons.1 ((h a).2 (List.mem_cons_of_mem _ hq)) with e | e
     · subst e; exact absurd hq (ne k1)
     · exact e
theorem sortE_ext {l m : List Ent} (hl : SortE l) (hm : SortE m) (h : ∀ x, x ∈ l ↔ x ∈ m) : l = m := pw_ext (fun a b h k => ilt_as h k) hl hm h
theorem sortV_ext {l m : List Ver} (hl : SortedV l) (hm : SortedV m) (h : ∀ x, x ∈ l ↔ x ∈ m) : l = m := pw_ext (fun a b h k => ilt_as (a := (a.rep, a.seq)) (b := (b.rep, b.seq)) h k) hl hm h
theorem sortO_pw {l : List Obj} : SortO l ↔ l.Pairwise fun a b => ilt a.id b.id = true := by
 unfold SortO SortE; rw [List.pairwise_map]; exact Iff.rfl
theorem sortO_ext {l m : List Obj} (hl : SortO l) (hm : SortO m) (h : ∀ x, x ∈ l ↔ x ∈ m) : l = m := pw_ext (fun a b h k => ilt_as h k) (sortO_pw.1 hl) (sortO_pw.1 hm) h
structure Acc (s : St) (e : Evt) : Prop where
 ck : checkB e = true
 new : hasB s.known e.rep e.seq = false
 dep : vLe e.dep s.known
 ret : s.ret (e.rep - 1).toNat = false
 why : whyD s e = 0
theorem acc_iff {s : St} {e : Evt} : whyS s e = 0 ↔ Acc s e := by
 unfold whyS
 constructor
 · intro h
   split at h
   · cases h
   · split at h
     · cases h
     · split at h
       · cases h
       · split at h
         · cases h
         · rename_i h1 h2 h3 h4
           exact ⟨by simpa using h1, by simpa using h2, by simpa using h3, by simpa using h4, h⟩
 · intro ⟨h1, h2, h3, h4, h5⟩
   rw [if_neg (by rw [h1]; simp), if_neg (by rw [h2]; simp), if_neg (fun q => q h3), if_neg (by rw [h4]; simp)]
   exact h5
inductive Val : List Evt → Prop
 | nil : Val []
 | snoc {l : List Evt} {e : Evt} : Val l → ev e → whyS (buildS l) e = 0 → Val (l ++ [e])
theorem bld_known (l : List Evt) : (buildS l).known = knownG l := (bld_ents l l).2
theorem bld_entsS (l : List Evt) : (buildS l).ents = entsG l l := (bld_ents l l).1
theorem Val.inv {l : List Evt} {e : Evt} (h : Val (l ++ [e])) : Val l ∧ ev e ∧ whyS (buildS l) e = 0 := by
 generalize hm : l ++ [e] = m at h
 cases h with
 | nil => simp at hm
 | snoc a b c =>
   obtain ⟨rfl, h2⟩ := List.append_inj' hm rfl
   cases h2
   exact ⟨a, b, c⟩
theorem Val.pre {l m : List Evt} : Val (l ++ m) → Val l :=
 snocR (P := fun m => Val (l ++ m) → Val l) (fun h => by simpa using h) (fun m e ih h => by
  rw [← List.append_assoc] at h
  exact ih h.inv.1) m
theorem hasB_iff {a : Vc} {i : Idn} : hasB a i.1 i.2 = true ↔ 1 ≤ i.2 ∧ 1 ≤ i.1 ∧ i.1 ≤ 8 ∧ i.2 ≤ a (i.1 - 1).toNat := by
 refine ⟨hasB_pos, fun ⟨h1, h2, h3, h4⟩ => ?_⟩
 unfold hasB getV; rw [if_pos ⟨h2, h3⟩]; exact decide_eq_true ⟨h1, h4⟩
theorem withV_at {v : Vc} {r : Int} {q : Nat} (hr : 1 ≤ r ∧ r ≤ 8) (i : Nat) : withV v r q i = if i = (r - 1).toNat then max (v i) q else v i := by
 unfold withV setV; rw [if_pos hr]; split
 · rename_i h; rw [h]
 · rfl
theorem with_le {v : Vc} {r : Int} {q : Nat} (i : Nat) : v i ≤ withV v r q i := by
 by_cases hr : 1 ≤ r ∧ r ≤ 8
 · rw [withV_at hr]; split <;> omega
 · unfold withV; rw [if_neg hr]; exact Nat.le_refl _
theorem has_mono {a b : Vc} (h : ∀ i, i < 8 → a i ≤ b i) {i : Idn} (k : hasB a i.1 i.2 = true) : hasB b i.1 i.2 = true := by
 rw [hasB_iff] at k ⊢
 have := h (i.1 - 1).toNat (by omega)
 omega
theorem acc_next {s : St} {e : Evt} (h : Acc s e) : 1 ≤ e.rep ∧ e.rep ≤ 8 ∧ e.seq = s.known (e.rep - 1).toNat + 1 := by
 obtain ⟨b1, b2, b3, b4, b5, b6, b7⟩ := check_base h.ck
 have h1 := h.dep (e.rep - 1).toNat (by omega)
 have h2 : ¬ hasB s.known e.rep e.seq = true := by rw [h.new]; simp
 rw [show hasB s.known e.rep e.seq = hasB s.known (evId e).1 (evId e).2 from rfl, hasB_iff] at h2
 simp only at h2
 omega
theorem Val.known {l : List Evt} (h : Val l) : NodE l ∧ ∀ i : Idn, hasB (knownG l) i.1 i.2 = true ↔ ∃ e ∈ l, evId e = i := by
 induction h with
 | nil => exact ⟨List.nodup_nil, fun i => by rw [hasB_iff]; simp [knownG]; omega⟩
 | @snoc l e hl he hw ih =>
   have ha := acc_iff.1 hw
   obtain ⟨n1, n2, n3⟩ := acc_next ha
   have hb := check_base ha.ck
   rw [bld_known] at n3
   have hnew : ¬ ∃ f ∈ l, evId f = evId e := fun q => by
    have := (ih.2 (evId e)).2 q
    have h2 := ha.new
    rw [bld_known] at h2
    rw [show hasB (knownG l) (evId e).1 (evId e).2 = hasB (knownG l) e.rep e.seq from rfl, h2] at this
    cases this
   refine ⟨?_, fun i => ?_⟩
   · unfold NodE
     rw [List.map_append, List.nodup_append]
     refine ⟨ih.1, by simp, fun a hm b hb q => hnew ?_⟩
     obtain ⟨f, hf, rfl⟩ := List.mem_map.1 hm
     simp at hb
     exact ⟨f, hf, by rw [q, hb]⟩
   · rw [knownG_snoc]
     have key : hasB (withV (knownG l) e.rep e.seq) i.1 i.2 = true ↔ hasB (knownG l) i.1 i.2 = true ∨ i = evId e := by
      rw [hasB_iff, hasB_iff, withV_at ⟨n1, n2⟩]
      by_cases hi : i = evId e
      · subst hi
        simp only [or_true, iff_true]
        refine ⟨hb.2.2.1, n1, n2, ?_⟩
        simp only [if_true]; exact Nat.le_max_right _ _
      · simp only [hi, or_false]
        by_cases hr : i.1 = e.rep
        · have hq : i.2 ≠ e.seq := fun q => hi (Prod.ext hr q)
          rw [hr, if_pos rfl]
          omega
        · constructor
          · rintro ⟨a, b, c, d⟩
            rw [if_neg (by omega)] at d
            exact ⟨a, b, c, d⟩
          · rintro ⟨a, b, c, d⟩
            rw [if_neg (by omega)]
            exact ⟨a, b, c, d⟩
     rw [key, ih.2]
     constructor
     · rintro (⟨f, hf, q⟩ | q)
       · exact ⟨f, by simp [hf], q⟩
       · exact ⟨e, by simp, q.symm⟩
     · rintro ⟨f, hf, q⟩
       rcases List.mem_append.1 hf with hf | hf
       · exact .inl ⟨f, hf, q⟩
       · rw [List.mem_singleton] at hf; subst hf; exact .inr q.symm
theorem Val.nod {l : List Evt} (h : Val l) : NodE l := h.known.1
theorem Val.has {l : List Evt} (h : Val l) {i : Idn} : hasB (knownG l) i.1 i.2 = true ↔ ∃ e ∈ l, evId e = i := h.known.2 i
theorem Val.mem {l : List Evt} (h : Val l) {e : Evt} (he : e ∈ l) : ∃ a b, l = a ++ e :: b ∧ Val a ∧ ev e ∧ Acc (buildS a) e := by
 obtain ⟨a, b, rfl⟩ := List.append_of_mem he
 have h2 : Val ((a ++ [e]) ++ b) := by rw [List.append_assoc]; exact h
 obtain ⟨h3, h4, h5⟩ := h2.pre.inv
 exact ⟨a, b, rfl, h3, h4, acc_iff.1 h5⟩
theorem knownG_app (l m : List Evt) : vLe (knownG l) (knownG (l ++ m)) :=
 snocR (P := fun m => vLe (knownG l) (knownG (l ++ m))) (fun i _ => by simp) (fun m e ih i hi => by
  rw [← List.append_assoc, knownG_snoc]
  exact Nat.le_trans (ih i hi) (with_le i)) m
theorem acc_has {l : List Evt} (h : Val l) {e : Evt} (ha : Acc (buildS l) e) {i : Idn} (k : hasB e.dep i.1 i.2 = true) : ∃ f ∈ l, evId f = i := by
 refine h.has.1 (has_mono (fun j hj => ?_) k)
 have := ha.dep j hj
 rwa [bld_known] at this
theorem acc_new {l : List Evt} (h : Val l) {e : Evt} (ha : Acc (buildS l) e) : ∀ f ∈ l, evId f ≠ evId e := fun f hf q => by
 have h1 := h.has.2 ⟨f, hf, q⟩
 have h2 := ha.new
 rw [bld_known] at h2
 rw [show hasB (knownG l) (evId e).1 (evId e).2 = hasB (knownG l) e.rep e.seq from rfl, h2] at h1
 cases h1
theorem ids_has {e : Evt} {l : List Idn} {n : Int} (h : idsB l n e.dep = true) : ∀ b ∈ l, hasB e.dep b.1 b.2 = true := fun b hb => by
 unfold idsB riseB at h
 simp only [Bool.and_eq_true, decide_eq_true_eq] at h
 obtain ⟨j, hj⟩ := List.mem_iff_getElem?.1 hb
 obtain ⟨hlt, hg⟩ := List.getElem?_eq_some_iff.1 hj
 have := (h.2 j hlt).1
 rw [hg] at this; exact this
theorem check_k' {e : Evt} (h : checkB e = true) : kindK e = true ∧ zerosB (bareE e) = true := by
 unfold checkB at h
 simp only [Bool.and_eq_true, decide_eq_true_eq] at h
 exact ⟨h.2.2.2, h.2.2.1⟩
theorem check_gone {e : Evt} (h : checkB e = true) (hk : e.kind = 6 ∨ e.kind = 7) : ∀ b ∈ e.gone.l, hasB e.dep b.1 b.2 = true := by
 have hK := (check_k' h).1
 rcases hk with k | k
 · rw [kindK_6 k] at hK; simp only [Bool.and_eq_true] at hK; exact ids_has hK.2
 · rw [kindK_7 k] at hK; simp only [Bool.and_eq_true] at hK; exact ids_has hK.2.1
theorem check_obj {e : Evt} (h : checkB e = true) (hk : e.kind = 3 ∨ e.kind = 4 ∨ e.kind = 5 ∨ e.kind = 6 ∨ e.kind = 7) : hasB e.dep e.orep e.oseq = true := by
 have hK := (check_k' h).1
 rcases hk with k | k | k | k | k
 · rw [kindK_3 k] at hK; simp only [Bool.and_eq_true] at hK; exact hK.1
 · rw [kindK_4 k] at hK; simp only [Bool.and_eq_true] at hK; exact hK.1
 · rw [kindK_5 k] at hK; simp only [Bool.and_eq_true] at hK; exact hK.1
 · rw [kindK_6 k] at hK; simp only [Bool.and_eq_true] at hK; exact hK.1
 · rw [kindK_7 k] at hK; simp only [Bool.and_eq_true] at hK; exact hK.1
theorem check_obj0 {e : Evt} (h : checkB e = true) (hk : ¬ (e.kind = 3 ∨ e.kind = 4 ∨ e.kind = 5 ∨ e.kind = 6 ∨ e.kind = 7)) : evObj e = (0, 0) := by
 obtain ⟨b1, b2, b3, b4, b5, b6, b7⟩ := check_base h
 have hz := (check_k' h).2
 have h4 : e.kind = 1 ∨ e.kind = 2 ∨ e.kind = 8 ∨ e.kind = 9 := by omega
 have hz' : zeroB e.orep e.oseq = true := by
  rcases h4 with k | k | k | k
  · rw [zb_1 k] at hz; simp only [madeB, Bool.and_eq_true, Bool.or_eq_true, Bool.false_eq_true, false_or] at hz; exact hz.1
  · rw [zb_2 k] at hz; simp only [madeB, Bool.and_eq_true, Bool.or_eq_true, Bool.false_eq_true, false_or] at hz; exact hz.1
  · rw [zb_8 k] at hz; simp only [madeB, Bool.and_eq_true, Bool.or_eq_true, Bool.false_eq_true, false_or] at hz; exact hz.1
  · rw [zb_9 k] at hz; simp only [madeB, Bool.and_eq_true, Bool.or_eq_true, Bool.false_eq_true, false_or] at hz; exact hz.1
 obtain ⟨h1, h2⟩ := of_decide_eq_true hz'
 exact Prod.ext h1 h2
theorem no_gone {l : List Evt} {e : Evt} (h : Val l) (ha : Acc (buildS l) e) (obj : Idn) {g : Evt} (hg : g ∈ l ++ [e]) : goF g obj (evId e) = false := by
 cases hq : goF g obj (evId e) with
 | false => rfl
 | true =>
   unfold goF at hq
   simp only [Bool.and_eq_true, decide_eq_true_eq] at hq
   rcases List.mem_append.1 hg with hg | hg
   · obtain ⟨a, b, rfl, h1, _, h3⟩ := h.mem hg
     obtain ⟨f, hf, hi⟩ := acc_has h1 h3 (check_gone h3.ck hq.1 _ hq.2.2)
     exact absurd hi (acc_new h ha f (by simp [hf]))
   · rw [List.mem_singleton] at hg; subst hg
     obtain ⟨f, hf, hi⟩ := acc_has h ha (check_gone ha.ck hq.1 _ hq.2.2)
     exact absurd hi (acc_new h ha f hf)
theorem no_obj {l : List Evt} {e : Evt} (h : Val l) (ha : Acc (buildS l) e) {g : Evt} (hg : g ∈ l ++ [e]) : evObj g ≠ evId e := fun q => by
 have base := check_base ha.ck
 have hne : ∀ {g : Evt}, checkB g = true → evObj g = evId e → hasB g.dep g.orep g.oseq = true := fun {g} hc q => by
  refine check_obj hc (Classical.byContradiction fun hk => ?_)
  have := check_obj0 hc hk
  rw [this] at q
  have q1 : (0 : Int) = e.rep := congrArg Prod.fst q
  have := base.1
  omega
 rcases List.mem_append.1 hg with hg | hg
 · obtain ⟨a, b, rfl, h1, _, h3⟩ := h.mem hg
   obtain ⟨f, hf, hi⟩ := acc_has h1 h3 (i := evObj g) (hne h3.ck q)
   rw [q] at hi
   exact absurd hi (acc_new h ha f (by simp [hf]))
 · rw [List.mem_singleton] at hg; subst hg
   obtain ⟨f, hf, hi⟩ := acc_has h ha (i := evObj g) (hne ha.ck q)
   rw [q] at hi
   exact absurd hi (acc_new h ha f hf)
theorem mem_entsG {l : List Evt} : ∀ m : List Evt, NodE m → SortE (entsG l m) ∧ ∀ x, x ∈ entsG l m ↔ ∃ e ∈ m, mkB e = true ∧ x = entB l e := by
 refine snocR (fun _ => ⟨List.Pairwise.nil, by simp [entsG]⟩) fun m e ih hn => ?_
 have hn' : NodE m := by unfold NodE at *; rw [List.map_append] at hn; exact hn.sublist (List.sublist_append_left _ _)
 obtain ⟨h1, h2⟩ := ih hn'
 have grow : ∀ x : Ent, (∃ f ∈ m ++ [e], mkB f = true ∧ x = entB l f) ↔ (∃ f ∈ m, mkB f = true ∧ x = entB l f) ∨ (mkB e = true ∧ x = entB l e) := fun o => by
  simp only [List.mem_append, List.mem_singleton]
  constructor
  · rintro ⟨f, hf | rfl, h⟩
    · exact .inl ⟨f, hf, h⟩
    · exact .inr h
  · rintro (⟨f, hf, h⟩ | h)
    · exact ⟨f, .inl hf, h⟩
    · exact ⟨e, .inr rfl, h⟩
 rw [entsG_snoc]
 by_cases hm : mkB e = true
 · rw [if_pos hm, putGo_put h1]
   have hnew : look (entsG l m) (entB l e).id = none := look_none.2 fun x hx q => by
    obtain ⟨f, hf, _, rfl⟩ := (h2 x).1 hx
    unfold NodE at hn
    rw [List.map_append, List.nodup_append] at hn
    exact hn.2.2 (evId f) (List.mem_map_of_mem hf) (evId e) (by simp) q
   have e1 : putL (entsG l m) (entB l e) = insE (entsG l m) (entB l e) := by
    unfold putL; rw [if_neg (by rw [isE_f.2 hnew]; simp)]
   rw [e1]
   refine ⟨sort_ins h1 hnew, fun x => ?_⟩
   rw [mem_ins, h2, grow]
   exact ⟨fun q => q.elim (fun q => .inr ⟨hm, q⟩) .inl, fun q => q.elim .inr fun q => .inl q.2⟩
 · rw [if_neg hm]
   refine ⟨h1, fun x => ?_⟩
   rw [h2, grow]
   exact ⟨.inl, fun q => q.resolve_right fun q => hm q.1⟩
theorem killF_idem (b : Idn) (x : Ent) : killF b (killF b x) = killF b x := by
 unfold killF; simp only [vJoin_assoc, vJoin_idem]
theorem goneE_map (e : Evt) : ∀ (m l : List Ent), goneE e l m = l.map fun x => if m.any (fun y => decide (y.id = x.id) && goesB e y) = true then killF (evId e) x else x
 | [], l => by simp [goneE]
 | y :: m, l => by
   have ih := goneE_map e m (if goesB e y = true then killL l y.id (evId e) else l)
   unfold goneE at ih ⊢
   simp only [List.foldl_cons]
   rw [ih]
   split
   · rename_i hg
     unfold killL modE
     rw [List.map_map]
     refine List.map_congr_left fun x hx => ?_
     simp only [Function.comp]
     by_cases hy : x.id = y.id
     · simp only [if_pos hy]
       have e2 : List.any (y :: m) (fun z => decide (z.id = x.id) && goesB e z) = true := by simp [hy, hg]
       rw [if_pos e2]
       split
       · exact killF_idem _ _
       · rfl
     · simp only [if_neg hy]
       have e2 : List.any (y :: m) (fun z => decide (z.id = x.id) && goesB e z) = List.any m (fun z => decide (z.id = x.id) && goesB e z) := by
        rw [List.any_cons, decide_eq_false (fun q : y.id = x.id => hy q.symm), Bool.false_and, Bool.false_or]
       rw [e2]
   · rename_i hg
     refine List.map_congr_left fun x hx => ?_
     have e2 : List.any (y :: m) (fun z => decide (z.id = x.id) && goesB e z) = List.any m (fun z => decide (z.id = x.id) && goesB e z) := by
      simp [show goesB e y = false by simpa using hg]
     rw [e2]
theorem goneE_eq {e : Evt} {l : List Ent} (hs : SortE l) : goneE e l l = l.map fun x => if goesB e x = true then killF (evId e) x else x := by
 rw [goneE_map]
 refine List.map_congr_left fun x hx => ?_
 have : l.any (fun y => decide (y.id = x.id) && goesB e y) = goesB e x := by
  rw [Bool.eq_iff_iff, List.any_eq_true]
  constructor
  · rintro ⟨y, hy, h⟩
    simp only [Bool.and_eq_true, decide_eq_true_eq] at h
    have h1 := look_mem hs hy
    have h2 := look_mem hs hx
    rw [h.1] at h1
    rw [h1] at h2; cases h2
    exact h.2
  · exact fun h => ⟨x, hx, by simp [h]⟩
 rw [this]
theorem byG_new {l : List Evt} {e : Evt} (h : Val l) (ha : Acc (buildS l) e) (obj : Idn) : byG (l ++ [e]) obj (evId e) = fun _ => 0 := by
 unfold byG
 have : ∀ m : List Evt, (∀ g ∈ m, goF g obj (evId e) = false) → m.foldl (fun g f => if goF f obj (evId e) = true then withV g f.rep f.seq else g) (fun _ => 0 : Vc) = fun _ => 0 := fun m hm => by
  induction m with
  | nil => rfl
  | cons g m ih =>
    rw [List.foldl_cons, if_neg (by rw [hm g List.mem_cons_self]; simp)]
    exact ih fun f hf => hm f (List.mem_cons_of_mem _ hf)
 exact this _ fun g hg => no_gone h ha obj hg
theorem entB_new {l : List Evt} {e : Evt} (h : Val l) (ha : Acc (buildS l) e) : entB (l ++ [e]) e = newEnt e (objI e) := by
 unfold entB newEnt; rw [byG_new h ha]
theorem entB_old (l : List Evt) (e f : Evt) : entB (l ++ [e]) f = if goF e (objI f) (evId f) = true then killF (evId e) (entB l f) else entB l f := by
 unfold entB
 rw [byG_snoc]
 split
 · unfold killF; simp only
   rw [show withV (byG l (objI f) (evId f)) e.rep e.seq = withV (byG l (objI f) (evId f)) (evId e).1 (evId e).2 from rfl, withV_eq]
 · rfl
theorem goesB_entB (l : List Evt) (e f : Evt) (hk : e.kind = 6 ∨ e.kind = 7) : goF e (objI f) (evId f) = goesB e (entB l f) := by
 unfold goF goesB entB
 simp only [hk, decide_true, Bool.true_and]
 congr 1
 exact decide_eq_decide.2 ⟨Eq.symm, Eq.symm⟩
theorem ents_snoc {l : List Evt} {e : Evt} (h : Val l) (ha : Acc (buildS l) e) :
 entsG (l ++ [e]) (l ++ [e]) = if e.kind = 1 ∨ e.kind = 2 then addL (entsG l l) (newEnt e (evId e)) else if e.kind = 7 then addL (goneE e (entsG l l) (entsG l l)) (newEnt e (evObj e)) else if e.kind = 6 then goneE e (entsG l l) (entsG l l) else entsG l l := by
 have hn := h.nod
 have hn2 : NodE (l ++ [e]) := by
  unfold NodE
  rw [List.map_append, List.nodup_append]
  refine ⟨hn, by simp, fun a hm b hb q => ?_⟩
  obtain ⟨f, hf, rfl⟩ := List.mem_map.1 hm
  simp at hb
  exact acc_new h ha f hf (by rw [q, hb])
 obtain ⟨s1, m1⟩ := mem_entsG (l := l) l hn
 obtain ⟨s2, m2⟩ := mem_entsG (l := l ++ [e]) (l ++ [e]) hn2
 have hlook : ∀ {m : List Ent}, (∀ x ∈ m, ∃ f ∈ l, x.id = evId f) → look m (evId e) = none := fun hm => look_none.2 fun x hx q => by
  obtain ⟨f, hf, hi⟩ := hm x hx
  exact acc_new h ha f hf (by rw [← hi, q])
 have hadd : ∀ {m : List Ent} {o : Idn}, SortE m → (∀ x ∈ m, ∃ f ∈ l, x.id = evId f) → SortE (addL m (newEnt e o)) ∧ ∀ x, x ∈ addL m (newEnt e o) ↔ x = newEnt e o ∨ x ∈ m := fun {m o} hs hm => by
  have hl := hlook hm
  have e1 : addL m (newEnt e o) = insE m (newEnt e o) := by unfold addL; rw [if_neg (by rw [show isE m (newEnt e o).id = false from isE_f.2 hl]; simp)]
  rw [e1]
  exact ⟨sort_ins hs hl, fun x => mem_ins⟩
 have hold : ∀ x ∈ entsG l l, ∃ f ∈ l, x.id = evId f := fun x hx => by
  obtain ⟨f, hf, _, rfl⟩ := (m1 x).1 hx; exact ⟨f, hf, rfl⟩
 have hgone := goneE_sort (e := e) s1 (entsG l l)
 have hgeq := goneE_eq (e := e) s1
 have hgold : ∀ x ∈ goneE e (entsG l l) (entsG l l), ∃ f ∈ l, x.id = evId f := fun x hx => by
  rw [hgeq] at hx
  obtain ⟨y, hy, rfl⟩ := List.mem_map.1 hx
  obtain ⟨f, hf, hi⟩ := hold y hy
  refine ⟨f, hf, ?_⟩
  split <;> exact hi
 have mG : (e.kind = 6 ∨ e.kind = 7) → ∀ x, x ∈ goneE e (entsG l l) (entsG l l) ↔ ∃ f ∈ l, mkB f = true ∧ x = entB (l ++ [e]) f := fun hk x => by
  rw [hgeq, List.mem_map]
  constructor
  · rintro ⟨y, hy, rfl⟩
    obtain ⟨f, hf, hm, rfl⟩ := (m1 y).1 hy
    exact ⟨f, hf, hm, by rw [entB_old, goesB_entB l e f hk]⟩
  · rintro ⟨f, hf, hm, rfl⟩
    exact ⟨entB l f, (m1 _).2 ⟨f, hf, hm, rfl⟩, by rw [entB_old, goesB_entB l e f hk]⟩
 have mN : ¬ (e.kind = 6 ∨ e.kind = 7) → ∀ x, x ∈ entsG l l ↔ ∃ f ∈ l, mkB f = true ∧ x = entB (l ++ [e]) f := fun hk x => by
  rw [m1]
  have : ∀ f, entB (l ++ [e]) f = entB l f := fun f => by
   rw [entB_old, if_neg (by unfold goF; simp [hk])]
  exact ⟨fun ⟨f, a, b, c⟩ => ⟨f, a, b, by rw [this, c]⟩, fun ⟨f, a, b, c⟩ => ⟨f, a, b, by rw [← this, c]⟩⟩
 have grow : ∀ x : Ent, (∃ f ∈ l ++ [e], mkB f = true ∧ x = entB (l ++ [e]) f) ↔ (mkB e = true ∧ x = newEnt e (objI e)) ∨ (∃ f ∈ l, mkB f = true ∧ x = entB (l ++ [e]) f) := fun x => by
  rw [← entB_new h ha]
  simp only [List.mem_append, List.mem_singleton]
  constructor
  · rintro ⟨f, hf | rfl, h⟩
    · exact .inr ⟨f, hf, h⟩
    · exact .inl h
  · rintro (h | ⟨f, hf, h⟩)
    · exact ⟨e, .inr rfl, h⟩
    · exact ⟨f, .inl hf, h⟩
 by_cases h12 : e.kind = 1 ∨ e.kind = 2
 · rw [if_pos h12]
   have hm : mkB e = true := decide_eq_true (by omega)
   have ho : objI e = evId e := if_neg (by omega)
   obtain ⟨a1, a2⟩ := hadd (o := evId e) s1 hold
   refine sortE_ext s2 a1 fun x => ?_
   rw [m2, grow, a2, mN (by omega), ho]
   simp [hm]
 rw [if_neg h12]
 by_cases h7 : e.kind = 7
 · rw [if_pos h7]
   have hm : mkB e = true := decide_eq_true (by omega)
   have ho : objI e = evObj e := if_pos h7
   obtain ⟨a1, a2⟩ := hadd (o := evObj e) hgone hgold
   refine sortE_ext s2 a1 fun x => ?_
   rw [m2, grow, a2, mG (.inr h7), ho]
   simp [hm]
 rw [if_neg h7]
 have hm : mkB e = false := decide_eq_false (by omega)
 by_cases h6 : e.kind = 6
 · rw [if_pos h6]
   refine sortE_ext s2 hgone fun x => ?_
   rw [m2, grow, mG (.inl h6)]
   simp [hm]
 · rw [if_neg h6]
   refine sortE_ext s2 s1 fun x => ?_
   rw [m2, grow, mN (by omega)]
   simp [hm]
theorem val_nod {l : List Evt} {e : Evt} (h : Val l) (ha : Acc (buildS l) e) : NodE (l ++ [e]) := by
 unfold NodE
 rw [List.map_append, List.nodup_append]
 refine ⟨h.nod, by simp, fun a hm b hb q => ?_⟩
 obtain ⟨f, hf, rfl⟩ := List.mem_map.1 hm
 simp at hb
 exact acc_new h ha f hf (by rw [q, hb])
theorem findL_mem {l : List Evt} (hn : NodE l) {e : Evt} (he : e ∈ l) : findL l (evId e) = some e := by
 unfold findL
 induction l with
 | nil => cases he
 | cons f l ih =>
   unfold NodE at hn
   rw [List.map_cons, List.nodup_cons] at hn
   rw [List.find?_cons]
   rcases List.mem_cons.1 he with rfl | he
   · simp
   · have : evId f ≠ evId e := fun q => hn.1 (q ▸ List.mem_map_of_mem he)
     rw [decide_eq_false this]
     exact ih hn.2 he
theorem findL_app {l : List Evt} {i : Idn} (t : List Evt) (h : ∃ f ∈ l, evId f = i) : findL (l ++ t) i = findL l i := by
 obtain ⟨f, hf, hi⟩ := h
 unfold findL
 rw [List.find?_append]
 cases hq : List.find? (fun e => decide (evId e = i)) l with
 | some x => rfl
 | none => exact absurd hi (by simpa using List.find?_eq_none.1 hq f hf)
theorem objB_vers (l : List Evt) (e : Evt) : ∀ m : List Evt, (objB l m e).vers = versG l (evId e) l :=
 snocR rfl fun m f ih => by
  rw [objB_snoc]
  unfold stepO
  split
  · split
    · split <;> exact ih
    · split <;> exact ih
  · exact ih
theorem mem_objs {l : List Evt} (hn : NodE l) : SortO (buildS l).objs ∧ (buildS l).objs.length ≤ l.length ∧ ∀ o, o ∈ (buildS l).objs ↔ ∃ e ∈ l, (e.kind = 1 ∨ e.kind = 2) ∧ o = objB l l e := bld_objs l.length l rfl hn
theorem objAt_mem {l : List Obj} (hs : SortO l) {o : Obj} (h : o ∈ l) : objAt l o.id = some o := by
 rw [objAt_find hs]
 cases hq : l.find? fun x => decide (x.id = o.id) with
 | none => have := List.find?_eq_none.1 hq o h; simp at this
 | some x =>
   have h1 := List.mem_of_find?_eq_some hq
   have h2 : x.id = o.id := by simpa using List.find?_some hq
   have a := look_mem (l := l.map obN) hs (List.mem_map_of_mem h1)
   obtain ⟨j, hj⟩ := List.mem_iff_getElem?.1 h1
   obtain ⟨k, hk⟩ := List.mem_iff_getElem?.1 h
   have : j = k := by
    rcases Nat.lt_trichotomy j k with q | q | q
    · have := sortO_get hs hj hk q; rw [h2] at this; exact absurd this ilt_irr
    · exact q
    · have := sortO_get hs hk hj q; rw [h2] at this; exact absurd this ilt_irr
   subst this
   rw [hj] at hk; exact hk
theorem objAt_mem' {l : List Obj} {i : Idn} {o : Obj} (h : objAt l i = some o) : o ∈ l ∧ o.id = i := ⟨List.mem_of_getElem? (objAt_some h).1, (objAt_some h).2⟩
theorem acc_obj {l : List Evt} {e : Evt} (h : Val l) (ha : Acc (buildS l) e) (hk : e.kind = 3 ∨ e.kind = 4 ∨ e.kind = 5 ∨ e.kind = 6 ∨ e.kind = 7) : ∃ f ∈ l, (f.kind = 1 ∨ f.kind = 2) ∧ evId f = evObj e ∧ objAt (buildS l).objs (evObj e) = some (objB l l f) ∧ (wrB e = true → (objB l l f).dir = false ∧ ¬ missing (versG l (evObj e) l) e.base.l) := by
 have hw := ha.why
 unfold whyD at hw
 rw [if_neg (by omega), if_neg (by omega)] at hw
 cases ho : objAt (buildS l).objs (evObj e) with
 | none => rw [ho] at hw; cases hw
 | some o =>
   rw [ho] at hw
   obtain ⟨h1, h2⟩ := objAt_mem' ho
   obtain ⟨f, hf, hk12, rfl⟩ := ((mem_objs h.nod).2.2 o).1 h1
   have h2' : evId f = evObj e := by rw [← objB_id l f l]; exact h2
   refine ⟨f, hf, hk12, h2', rfl, fun hwr => ?_⟩
   have hk3 := of_decide_eq_true hwr
   simp only at hw
   rw [if_neg (by omega), if_neg (by omega)] at hw
   split at hw
   · cases hw
   · split at hw
     · cases hw
     · rename_i hd hm
       rw [objB_vers, h2'] at hm
       exact ⟨by simpa using hd, hm⟩
theorem acc_base {l : List Evt} {e : Evt} (h : Val l) (ha : Acc (buildS l) e) (hw : wrB e = true) : ∀ b ∈ e.base.l, ∃ v, findV (versG l (evObj e) l) b.1 b.2 = some v ∧ ∃ g ∈ l, wrB g = true ∧ evObj g = evObj e ∧ evId g = b ∧ v = verB l l g := fun b hb => by
 have hk3 := of_decide_eq_true hw
 obtain ⟨f, hf, hk, hi, ho, hm⟩ := acc_obj h ha (by omega)
 obtain ⟨_, hm⟩ := hm hw
 cases hv : findV (versG l (evObj e) l) b.1 b.2 with
 | none => exact absurd ⟨b, hb, hv⟩ hm
 | some v =>
   obtain ⟨h1, h2⟩ := findV_mem hv
   obtain ⟨g, hg, ⟨hw, ho⟩, rfl⟩ := (versG_mem l.length l rfl).1 h1
   exact ⟨_, rfl, g, hg, hw, ho, Prod.ext h2.1 h2.2, rfl⟩
noncomputable def wasB (l : List Evt) (e : Evt) : List UInt8 := match e.base.l with
 | [] => []
 | b :: _ => bytesD l l.length b
theorem check_data {e : Evt} (h : checkB e = true) (hw : wrB e = true) : e.data.length ≤ 200 := by
 have hK := check_k' h
 have hk := of_decide_eq_true hw
 rcases hk with k | k | k
 · have h1 := hK.1
   rw [kindK_3 k] at h1
   simp only [Bool.and_eq_true, sizeB, decide_eq_true_eq] at h1
   omega
 · have h1 := hK.2
   rw [zb_4 k] at h1
   simp only [madeB, Bool.and_eq_true, Bool.or_eq_true, decide_eq_true_eq, Bool.false_eq_true, false_or, true_or] at h1
   have : e.data = [] := h1.2.2.2.2.2.1
   rw [this]; simp
 · have h1 := hK.1
   rw [kindK_5 k] at h1
   simp only [Bool.and_eq_true, sizeB, decide_eq_true_eq] at h1
   omega
theorem stepW_200 {e : Evt} (h : checkB e = true) (hw : wrB e = true) {was : List UInt8} (hl : was.length ≤ 200) : (stepW e was).length ≤ 200 := by
 have hd := check_data h hw
 unfold stepW
 split
 · exact hd
 · split
   · unfold cutW; split
     · simp
     · rw [cutB_len]; omega
   · unfold patchW; split
     · simp
     · rename_i h; unfold patchBad at h; rw [patchB_len]; omega
theorem val_bytes {l : List Evt} (h : Val l) : ∀ g ∈ l, wrB g = true → (bytesD l l.length (evId g)).length ≤ 200 ∧ ∀ t n, l.length ≤ n → bytesD (l ++ t) n (evId g) = bytesD l l.length (evId g) := by
 induction h with
 | nil => intro g hg; cases hg
 | @snoc l e hl he hw ih =>
   have ha := acc_iff.1 hw
   intro g hg hgw
   have hlen : (l ++ [e]).length = l.length + 1 := by simp
   rcases List.mem_append.1 hg with hg | hg
   · obtain ⟨h1, h2⟩ := ih g hg hgw
     have e1 : bytesD (l ++ [e]) (l ++ [e]).length (evId g) = bytesD l l.length (evId g) := h2 [e] _ (by omega)
     rw [e1]
     refine ⟨h1, fun t n hn => ?_⟩
     rw [List.append_assoc]
     exact h2 _ n (by omega)
   · rw [List.mem_singleton] at hg; subst hg
     have key : ∀ t n, (l ++ [g]).length ≤ n → bytesD ((l ++ [g]) ++ t) n (evId g) = stepW g (wasB l g) := fun t n hn => by
      obtain ⟨n, rfl⟩ : ∃ k, n = k + 1 := ⟨n - 1, by omega⟩
      simp only [bytesD]
      rw [findL_app t ⟨g, by simp, rfl⟩, findL_mem (val_nod hl ha) (by simp)]
      simp only
      congr 1
      unfold wasB
      cases hb : g.base.l with
      | nil => rfl
      | cons b r =>
        simp only
        obtain ⟨v, hv, f, hf, hfw, _, rfl, _⟩ := acc_base hl ha hgw b (by rw [hb]; simp)
        rw [List.append_assoc]
        exact (ih f hf hfw).2 _ n (by omega)
     have e1 : bytesD (l ++ [g]) (l ++ [g]).length (evId g) = stepW g (wasB l g) := by
      have := key [] (l ++ [g]).length (Nat.le_refl _)
      rwa [List.append_nil] at this
     rw [e1]
     refine ⟨stepW_200 ha.ck hgw ?_, key⟩
     unfold wasB
     cases hb : g.base.l with
     | nil => simp
     | cons b r =>
       simp only
       obtain ⟨v, hv, f, hf, hfw, _, rfl, _⟩ := acc_base hl ha hgw b (by rw [hb]; simp)
       exact (ih f hf hfw).1
theorem bytes_new {l : List Evt} {e : Evt} (h : Val l) (ha : Acc (buildS l) e) (hw : wrB e = true) : bytesD (l ++ [e]) (l ++ [e]).length (evId e) = stepW e (wasB l e) := by
 rw [show (l ++ [e]).length = l.length + 1 from by simp]
 simp only [bytesD]
 rw [findL_mem (val_nod h ha) (by simp)]
 simp only
 congr 1
 unfold wasB
 cases hb : e.base.l with
 | nil => rfl
 | cons b r =>
   simp only
   obtain ⟨v, hv, f, hf, hfw, _, rfl, _⟩ := acc_base h ha hw b (by rw [hb]; simp)
   exact (val_bytes h f hf hfw).2 _ _ (Nat.le_refl _)
theorem verB_old {l : List Evt} {e : Evt} (h : Val l) {g : Evt} (hg : g ∈ l) (hw : wrB g = true) : verB (l ++ [e]) (l ++ [e]) g = if gvF e (evObj g) (evId g) = true then markV (verB l l g) e.rep e.seq else verB l l g := by
 have hb := (val_bytes h g hg hw).2 [e] (l ++ [e]).length (by simp)
 unfold verB
 rw [hb, gvG_snoc]
 split <;> rfl
theorem no_base {l : List Evt} {e : Evt} (h : Val l) (ha : Acc (buildS l) e) (obj : Idn) {g : Evt} (hg : g ∈ l ++ [e]) : gvF g obj (evId e) = false := by
 cases hq : gvF g obj (evId e) with
 | false => rfl
 | true =>
   unfold gvF at hq
   simp only [Bool.and_eq_true, decide_eq_true_eq] at hq
   rcases List.mem_append.1 hg with hg | hg
   · obtain ⟨a, b, rfl, h1, _, h3⟩ := h.mem hg
     obtain ⟨_, _, f, hf, _, _, hi, _⟩ := acc_base h1 h3 hq.1 _ hq.2.2
     exact absurd hi (acc_new h ha f (by simp [hf]))
   · rw [List.mem_singleton] at hg; subst hg
     obtain ⟨_, _, f, hf, _, _, hi, _⟩ := acc_base h ha hq.1 _ hq.2.2
     exact absurd hi (acc_new h ha f hf)
theorem gvG_new {l : List Evt} {e : Evt} (h : Val l) (ha : Acc (buildS l) e) (obj : Idn) : gvG (l ++ [e]) obj (evId e) = fun _ => 0 := by
 unfold gvG
 have : ∀ m : List Evt, (∀ g ∈ m, gvF g obj (evId e) = false) → m.foldl (fun a g => if gvF g obj (evId e) = true then withV a g.rep g.seq else a) (fun _ => 0 : Vc) = fun _ => 0 := fun m hm => by
  induction m with
  | nil => rfl
  | cons g m ih =>
    rw [List.foldl_cons, if_neg (by rw [hm g List.mem_cons_self]; simp)]
    exact ih fun f hf => hm f (List.mem_cons_of_mem _ hf)
 exact this _ fun g hg => no_base h ha obj hg
theorem mem_vers {l : List Evt} (h : NodE l) (obj : Idn) : SortedV (versG l obj l) ∧ (versG l obj l).length ≤ l.length ∧ ∀ v, v ∈ versG l obj l ↔ ∃ e ∈ l, (wrB e = true ∧ evObj e = obj) ∧ v = verB l l e := ⟨(versG_sorted l.length l rfl h).1, (versG_sorted l.length l rfl h).2, fun v => versG_mem l.length l rfl⟩
theorem vers_same {l : List Evt} {e : Evt} (h : Val l) (ha : Acc (buildS l) e) {obj : Idn} (hx : ¬ (wrB e = true ∧ evObj e = obj)) : versG (l ++ [e]) obj (l ++ [e]) = versG l obj l := by
 obtain ⟨s1, _, m1⟩ := mem_vers h.nod obj
 obtain ⟨s2, _, m2⟩ := mem_vers (val_nod h ha) obj
 refine sortV_ext s2 s1 fun v => ?_
 have key : ∀ g ∈ l, wrB g = true ∧ evObj g = obj → verB (l ++ [e]) (l ++ [e]) g = verB l l g := fun g hg ⟨hw, ho⟩ => by
  rw [verB_old h hg hw, if_neg]
  unfold gvF
  rw [ho]
  simp only [Bool.and_eq_true, decide_eq_true_eq]
  exact fun q => hx ⟨q.1, q.2.1⟩
 rw [m1, m2]
 constructor
 · rintro ⟨g, hg, hc, rfl⟩
   rcases List.mem_append.1 hg with hg | hg
   · exact ⟨g, hg, hc, key g hg hc⟩
   · rw [List.mem_singleton] at hg; subst hg; exact absurd hc hx
 · rintro ⟨g, hg, hc, rfl⟩
   exact ⟨g, List.mem_append_left _ hg, hc, (key g hg hc).symm⟩
theorem bytesV_eq {l : List Evt} {e : Evt} (h : Val l) (ha : Acc (buildS l) e) (hw : wrB e = true) : bytesV (versG l (evObj e) l) e = stepW e (wasB l e) := by
 have hd : ∀ v ∈ versG l (evObj e) l, v.data.length ≤ 200 := fun v hv => by
  obtain ⟨g, hg, hc, rfl⟩ := ((mem_vers h.nod (evObj e)).2.2 v).1 hv
  exact (val_bytes h g hg hc.1).1
 have hk := of_decide_eq_true hw
 have hf := check_fits ha.ck hk hd
 have hwas : (dataV (versG l (evObj e) l) (baseI e).1 (baseI e).2).1 = wasB l e := by
  unfold baseI wasB
  cases hb : e.base.l with
  | nil => simp only; rw [dataV_0 ⟨rfl, rfl⟩]
  | cons b r =>
    simp only
    obtain ⟨v, hv, f, hf, hfw, _, rfl, rfl⟩ := acc_base h ha hw b (by rw [hb]; simp)
    obtain ⟨a, c, _, _, _, h3⟩ := h.mem hf
    have hbp := check_base h3.ck
    have hbp1 : 1 ≤ f.rep := hbp.1
    rw [dataV_s (fun q => by have := q.1; simp only at this; omega) hv]
    rfl
 have hwl : (dataV (versG l (evObj e) l) (baseI e).1 (baseI e).2).1.length ≤ 200 := dataV_len hd _ _
 unfold bytesV stepW
 rw [hwas] at hwl ⊢
 by_cases h5 : e.kind = 5
 · rw [if_pos h5, if_pos h5]
 rw [if_neg h5, if_neg h5]
 obtain ⟨o1, o2⟩ := hf.off h5
 by_cases h4 : e.kind = 4
 · rw [if_pos h4, if_pos h4]
   unfold cutW; rw [if_neg (by omega)]
 · rw [if_neg h4, if_neg h4]
   have hl := hf.len (by omega)
   unfold patchW; rw [if_neg (by unfold patchBad; omega)]
theorem vers_add {l : List Evt} {e : Evt} (h : Val l) (ha : Acc (buildS l) e) (hw : wrB e = true) : versG (l ++ [e]) (evObj e) (l ++ [e]) = addLV (versG l (evObj e) l) e.base.l (verS e.rep e.seq (bytesV (versG l (evObj e) l) e)) := by
 obtain ⟨s1, _, m1⟩ := mem_vers h.nod (evObj e)
 obtain ⟨s2, _, m2⟩ := mem_vers (val_nod h ha) (evObj e)
 have hnew : findV (versG l (evObj e) l) e.rep e.seq = none := findV_none.2 fun v hv ⟨h1, h2⟩ => by
  obtain ⟨g, hg, _, rfl⟩ := (m1 v).1 hv
  exact acc_new h ha g hg (Prod.ext h1 h2)
 have hE : verB (l ++ [e]) (l ++ [e]) e = verS e.rep e.seq (bytesV (versG l (evObj e) l) e) := by
  unfold verB verS
  rw [bytes_new h ha hw, gvG_new h ha, bytesV_eq h ha hw]
 refine sortV_ext s2 (addL_sorted s1 hnew) fun v => ?_
 rw [m2, mem_addL, ← hE]
 have key : ∀ g ∈ l, wrB g = true ∧ evObj g = evObj e → verB (l ++ [e]) (l ++ [e]) g = markB e.base.l e.rep e.seq (verB l l g) := fun g hg ⟨hgw, ho⟩ => by
  rw [verB_old h hg hgw]
  unfold markB
  have : gvF e (evObj g) (evId g) = decide (((verB l l g).rep, (verB l l g).seq) ∈ e.base.l) := by
   unfold gvF
   rw [hw, ho]
   simp; rfl
  rw [this]
  by_cases hin : ((verB l l g).rep, (verB l l g).seq) ∈ e.base.l
  · rw [if_pos (decide_eq_true hin), if_pos hin]
  · rw [if_neg (by simpa using hin), if_neg hin]
 constructor
 · rintro ⟨g, hg, hc, rfl⟩
   rcases List.mem_append.1 hg with hg | hg
   · exact .inr ⟨verB l l g, (m1 _).2 ⟨g, hg, hc, rfl⟩, key g hg hc⟩
   · rw [List.mem_singleton] at hg; subst hg; exact .inl rfl
 · rintro (rfl | ⟨y, hy, rfl⟩)
   · exact ⟨e, by simp, ⟨hw, rfl⟩, rfl⟩
   · obtain ⟨g, hg, hc, rfl⟩ := (m1 y).1 hy
     exact ⟨g, List.mem_append_left _ hg, hc, (key g hg hc).symm⟩
theorem stepO_vers (e f : Evt) (o : Obj) (v : List Ver) : stepO e { o with vers := v } f = { stepO e o f with vers := v } := by
 unfold stepO
 by_cases h1 : evObj f = evId e
 · rw [if_pos h1, if_pos h1]
   by_cases h7 : f.kind = 7
   · rw [if_pos h7, if_pos h7]
     by_cases hl : idLt o.last.1 o.last.2 f.rep f.seq = true
     · rw [if_pos hl, if_pos hl]
     · rw [if_neg hl, if_neg hl]
   · rw [if_neg h7, if_neg h7]
     by_cases h6 : f.kind = 6
     · rw [if_pos h6, if_pos h6]
     · rw [if_neg h6, if_neg h6]
 · rw [if_neg h1, if_neg h1]
theorem objB_re (l L : List Evt) (e : Evt) : ∀ m : List Evt, objB L m e = { objB l m e with vers := versG L (evId e) L } :=
 snocR rfl fun m f ih => by
  rw [objB_snoc, objB_snoc, ih, stepO_vers]
theorem objB_old (l : List Evt) (e f : Evt) : objB (l ++ [e]) (l ++ [e]) f = { stepO f (objB l l f) e with vers := versG (l ++ [e]) (evId f) (l ++ [e]) } := by
 rw [objB_re l, objB_snoc]
theorem stepO_keep (e f : Evt) (o : Obj) : (stepO e o f).id = o.id ∧ (stepO e o f).dir = o.dir ∧ (stepO e o f).vers = o.vers := by
 unfold stepO
 split
 · split
   · split <;> exact ⟨rfl, rfl, rfl⟩
   · split <;> exact ⟨rfl, rfl, rfl⟩
 · exact ⟨rfl, rfl, rfl⟩
theorem objB_new {l : List Evt} {e : Evt} (h : Val l) (ha : Acc (buildS l) e) : objB (l ++ [e]) (l ++ [e]) e = newO e := by
 have hv : versG (l ++ [e]) (evId e) (l ++ [e]) = [] := by
  refine List.eq_nil_iff_forall_not_mem.2 fun v hv => ?_
  obtain ⟨g, hg, hc, _⟩ := ((mem_vers (val_nod h ha) (evId e)).2.2 v).1 hv
  exact no_obj h ha hg hc.2
 unfold objB newO
 rw [hv]
 have : ∀ (m : List Evt) (o : Obj), (∀ g ∈ m, evObj g ≠ evId e) → m.foldl (stepO e) o = o := fun m => by
  induction m with
  | nil => intro o _; rfl
  | cons g m ih =>
    intro o hm
    rw [List.foldl_cons, show stepO e o g = o from if_neg (hm g List.mem_cons_self)]
    exact ih o fun f hf => hm f (List.mem_cons_of_mem _ hf)
 exact this _ _ fun g hg => no_obj h ha hg
def GO (e : Evt) (x : Obj) : Obj :=
 if e.kind = 7 then moveO e x
 else if e.kind = 6 then { x with seen := vJoin x.seen (withV e.dep e.rep e.seq) }
 else { x with vers := addLV x.vers e.base.l (verS e.rep e.seq (bytesV x.vers e)) }
theorem moveO_id (e : Evt) (x : Obj) : (moveO e x).id = x.id := by unfold moveO; split <;> rfl
theorem GO_id (e : Evt) (x : Obj) : (GO e x).id = x.id := by
 unfold GO
 split
 · exact moveO_id e x
 · split <;> rfl
theorem set_objs {l : List Obj} (hs : SortO l) {i : Idn} {o : Obj} (h : objAt l i = some o) (g : Obj → Obj) : l.set (posO l i) (g o) = l.map fun x => if x.id = i then g x else x := by
 obtain ⟨h1, h2⟩ := objAt_some h
 apply List.ext_getElem?
 intro j
 rw [List.getElem?_map]
 by_cases hj : posO l i = j
 · subst hj
   rw [List.getElem?_set_self (List.getElem?_eq_some_iff.1 h1).1, h1]
   simp only [Option.map_some]
   rw [if_pos h2]
 · rw [List.getElem?_set_ne hj]
   cases hy : l[j]? with
   | none => rfl
   | some y =>
     simp only [Option.map_some]
     rw [if_neg]
     intro q
     rcases Nat.lt_or_gt_of_ne hj with k | k
     · have := sortO_get hs h1 hy k; rw [h2, q] at this; exact ilt_irr this
     · have := sortO_get hs hy h1 k; rw [h2, q] at this; exact ilt_irr this
theorem do_objs {s : St} (hs : SortO s.objs) {e : Evt} (hk : e.kind = 3 ∨ e.kind = 4 ∨ e.kind = 5 ∨ e.kind = 6 ∨ e.kind = 7) {o : Obj} (h : objAt s.objs (evObj e) = some o) : (doS s e).objs = s.objs.map fun x => if x.id = evObj e then GO e x else x := by
 unfold doS
 rw [if_neg (by omega), if_neg (by omega), if_neg (by omega), h, ← set_objs hs h (GO e)]
 simp only
 unfold GO
 by_cases h7 : e.kind = 7
 · rw [if_pos h7, if_pos h7]; rfl
 rw [if_neg h7, if_neg h7]
 by_cases h6 : e.kind = 6
 · rw [if_pos h6, if_pos h6]; rfl
 · rw [if_neg h6, if_neg h6]; rfl
theorem sortO_map {l : List Obj} (hs : SortO l) {g : Obj → Obj} (hg : ∀ x, (g x).id = x.id) : SortO (l.map g) := by
 rw [sortO_pw] at *
 rw [List.pairwise_map]
 exact hs.imp fun {a b} h => by rw [hg, hg]; exact h
theorem rep_ne {l : List Evt} (h : Val l) {f : Evt} (hf : f ∈ l) : evId f ≠ (0, 0) := fun q => by
 obtain ⟨a, b, _, _, _, h3⟩ := h.mem hf
 have h1 : 1 ≤ f.rep := (check_base h3.ck).1
 have h2 : f.rep = 0 := congrArg Prod.fst q
 omega
theorem objB_eq {l : List Evt} {e : Evt} (h : Val l) (ha : Acc (buildS l) e) {f : Evt} (hf : f ∈ l) :
 objB (l ++ [e]) (l ++ [e]) f = if (e.kind = 3 ∨ e.kind = 4 ∨ e.kind = 5 ∨ e.kind = 6 ∨ e.kind = 7) ∧ evId f = evObj e then GO e (objB l l f) else objB l l f := by
 rw [objB_old]
 have hov := objB_vers l f l
 by_cases hk : e.kind = 3 ∨ e.kind = 4 ∨ e.kind = 5 ∨ e.kind = 6 ∨ e.kind = 7
 rotate_left
 · rw [if_neg fun q => hk q.1]
   have hw : wrB e = false := decide_eq_false (by omega)
   rw [vers_same h ha (fun q => by rw [hw] at q; simp at q), ← hov]
   have h0 := check_obj0 ha.ck hk
   have : stepO f (objB l l f) e = objB l l f := if_neg (by rw [h0]; exact fun q => rep_ne h hf q.symm)
   rw [this]
 by_cases hi : evId f = evObj e
 rotate_left
 · rw [if_neg fun q => hi q.2, vers_same h ha (fun q => hi q.2.symm), ← hov]
   have : stepO f (objB l l f) e = objB l l f := if_neg fun q => hi q.symm
   rw [this]
 rw [if_pos ⟨hk, hi⟩]
 unfold stepO GO
 rw [if_pos hi.symm]
 by_cases h7 : e.kind = 7
 · have hw : wrB e = false := decide_eq_false (by omega)
   rw [if_pos h7, if_pos h7, vers_same h ha (fun q => by rw [hw] at q; simp at q), ← hov]
   unfold moveO
   split <;> rfl
 rw [if_neg h7, if_neg h7]
 by_cases h6 : e.kind = 6
 · have hw : wrB e = false := decide_eq_false (by omega)
   rw [if_pos h6, if_pos h6, vers_same h ha (fun q => by rw [hw] at q; simp at q), ← hov]
 · rw [if_neg h6, if_neg h6]
   have hw : wrB e = true := decide_eq_true (by omega)
   rw [hi, vers_add h ha hw, hov, hi]
theorem objs_snoc {l : List Evt} {e : Evt} (h : Val l) (ha : Acc (buildS l) e) : (buildS (l ++ [e])).objs = (applyS (buildS l) e).objs := by
 obtain ⟨s1, _, m1⟩ := mem_objs h.nod
 obtain ⟨s2, _, m2⟩ := mem_objs (val_nod h ha)
 have hkn : (knowS (buildS l) e).objs = (buildS l).objs := rfl
 by_cases hk : e.kind = 3 ∨ e.kind = 4 ∨ e.kind = 5 ∨ e.kind = 6 ∨ e.kind = 7
 · obtain ⟨f0, hf0, _, _, ho, _⟩ := acc_obj h ha hk
   have hd := do_objs (s := knowS (buildS l) e) s1 hk ho
   unfold applyS
   rw [hd]
   refine sortO_ext s2 (sortO_map s1 fun x => by split; exact GO_id e x; rfl) fun x => ?_
   rw [m2, List.mem_map]
   have key : ∀ f ∈ l, objB (l ++ [e]) (l ++ [e]) f = if (objB l l f).id = evObj e then GO e (objB l l f) else objB l l f := fun f hf => by
    rw [objB_eq h ha hf, objB_id]
    by_cases hi : evId f = evObj e
    · rw [if_pos ⟨hk, hi⟩, if_pos hi]
    · rw [if_neg fun q => hi q.2, if_neg hi]
   constructor
   · rintro ⟨f, hf, hc, rfl⟩
     rcases List.mem_append.1 hf with hf | hf
     · exact ⟨objB l l f, (m1 _).2 ⟨f, hf, hc, rfl⟩, (key f hf).symm⟩
     · rw [List.mem_singleton] at hf; subst hf; omega
   · rintro ⟨y, hy, rfl⟩
     obtain ⟨f, hf, hc, rfl⟩ := (m1 y).1 hy
     exact ⟨f, List.mem_append_left _ hf, hc, (key f hf).symm⟩
 have key : ∀ f ∈ l, objB (l ++ [e]) (l ++ [e]) f = objB l l f := fun f hf => by
  rw [objB_eq h ha hf, if_neg fun q => hk q.1]
 have hb := check_base ha.ck
 obtain ⟨_, _, _, _, _, b6, b7⟩ := hb
 by_cases h12 : e.kind = 1 ∨ e.kind = 2
 · have hd : (applyS (buildS l) e).objs = insO (buildS l).objs (newO e) := by
    unfold applyS doS
    rw [if_neg (by omega), if_neg (by omega), if_pos h12]; rfl
   rw [hd]
   have hne : ∀ x ∈ (buildS l).objs, x.id ≠ (newO e).id := fun x hx q => by
    obtain ⟨f, hf, hc, rfl⟩ := (m1 x).1 hx
    rw [objB_id] at q
    exact acc_new h ha f hf q
   refine sortO_ext s2 (sortO_ins s1 hne) fun x => ?_
   rw [m2, mem_insO]
   constructor
   · rintro ⟨f, hf, hc, rfl⟩
     rcases List.mem_append.1 hf with hf | hf
     · exact .inr ((m1 _).2 ⟨f, hf, hc, key f hf⟩)
     · rw [List.mem_singleton] at hf; subst hf; exact .inl (objB_new h ha)
   · rintro (rfl | hx)
     · exact ⟨e, by simp, h12, (objB_new h ha).symm⟩
     · obtain ⟨f, hf, hc, rfl⟩ := (m1 x).1 hx
       exact ⟨f, List.mem_append_left _ hf, hc, (key f hf).symm⟩
 · have hd : (applyS (buildS l) e).objs = (buildS l).objs := by
    unfold applyS doS
    by_cases h8 : e.kind = 8
    · rw [if_pos h8]; rfl
    · rw [if_neg h8, if_pos (by omega)]; rfl
   rw [hd]
   refine sortO_ext s2 s1 fun x => ?_
   rw [m2, m1]
   constructor
   · rintro ⟨f, hf, hc, rfl⟩
     rcases List.mem_append.1 hf with hf | hf
     · exact ⟨f, hf, hc, key f hf⟩
     · rw [List.mem_singleton] at hf; subst hf; exact absurd hc h12
   · rintro ⟨f, hf, hc, rfl⟩
     exact ⟨f, List.mem_append_left _ hf, hc, (key f hf).symm⟩
end Go.Proofs.YthhomcfimdkfhaaGreat.Fw
namespace Go.Proofs.YthhomcfimdkfhaaGreat.Fw
open Go.RowKit Go.Proofs
theorem St.eq {a b : St} (h1 : a.known = b.known) (h2 : a.objs = b.objs) (h3 : a.ents = b.ents) (h4 : a.wards = b.wards) (h5 : a.ret = b.ret) : a = b := by
 cases a; cases b; simp only at h1 h2 h3 h4 h5; subst h1 h2 h3 h4 h5; rfl
theorem bld_w (l l' : List Evt) : ∀ m : List Evt, (bldP l m).1.wards = (bldP l' m).1.wards ∧ (bldP l m).1.ret = (bldP l' m).1.ret ∧ (bldP l m).2 = (bldP l' m).2 :=
 snocR ⟨rfl, rfl, rfl⟩ fun m e ⟨h1, h2, h3⟩ => by
  rw [bldP_snoc, bldP_snoc]
  unfold bStep
  by_cases k12 : e.kind = 1 ∨ e.kind = 2
  · rw [if_pos k12, if_pos k12]; exact ⟨h1, h2, h3⟩
  rw [if_neg k12, if_neg k12]
  by_cases k8 : e.kind = 8
  · rw [if_pos k8, if_pos k8, h3]
    split
    · exact ⟨by simp only [seatS, h1], h2, by simp only [h3]⟩
    · exact ⟨h1, h2, h3⟩
  rw [if_neg k8, if_neg k8]
  by_cases k9 : e.kind = 9
  · rw [if_pos k9, if_pos k9]; exact ⟨h1, by simp only [retS, h2], h3⟩
  rw [if_neg k9, if_neg k9]; exact ⟨h1, h2, h3⟩
theorem with_mono {a b : Vc} {r : Int} {q : Nat} {i : Nat} (h : ∀ i, a i ≤ b i) : withV a r q i ≤ withV b r q i := by
 by_cases hr : 1 ≤ r ∧ r ≤ 8
 · rw [withV_at hr, withV_at hr]; have := h i; split <;> omega
 · unfold withV; rw [if_neg hr, if_neg hr]; exact h i
theorem latest_le (L : List Evt) : ∀ (m : List Evt) (i : Nat), (bldP L m).2 i ≤ knownG m i :=
 snocR (fun i => Nat.le_refl _) fun m e ih i => by
  rw [bldP_snoc, knownG_snoc]
  unfold bStep
  split
  · exact Nat.le_trans (ih i) (with_le i)
  · split
    · split
      · exact with_mono ih
      · exact Nat.le_trans (ih i) (with_le i)
    · split <;> exact Nat.le_trans (ih i) (with_le i)
theorem do_known (s : St) (e : Evt) : (doS s e).known = s.known := by
 unfold doS
 split
 · rfl
 · split
   · rfl
   · split
     · rfl
     · split
       · rfl
       · split
         · rfl
         · split <;> rfl
theorem build_snoc {l : List Evt} {e : Evt} (h : Val l) (ha : Acc (buildS l) e) : buildS (l ++ [e]) = applyS (buildS l) e := by
 obtain ⟨n1, n2, n3⟩ := acc_next ha
 obtain ⟨_, _, _, _, _, b6, b7⟩ := check_base ha.ck
 rw [bld_known] at n3
 have hb : buildS (l ++ [e]) = (bStep (l ++ [e]) (bldP (l ++ [e]) l) e).1 := by
  show (bldP (l ++ [e]) (l ++ [e])).1 = _
  rw [bldP_snoc]
 obtain ⟨w1, w2, w3⟩ := bld_w (l ++ [e]) l l
 have hen := ents_snoc h ha
 rw [← bld_entsS (l ++ [e]), ← bld_entsS l] at hen
 refine St.eq ?_ (objs_snoc h ha) ?_ ?_ ?_
 · rw [bld_known, knownG_snoc]
   unfold applyS; rw [do_known]
   show _ = withV (buildS l).known e.rep e.seq
   rw [bld_known]
 · rw [hen]
   unfold applyS doS
   by_cases h8 : e.kind = 8
   · rw [if_pos h8, if_neg (by omega), if_neg (by omega), if_neg (by omega)]; rfl
   rw [if_neg h8]
   by_cases h9 : e.kind = 9
   · rw [if_pos h9, if_neg (by omega), if_neg (by omega), if_neg (by omega)]; rfl
   rw [if_neg h9]
   by_cases h12 : e.kind = 1 ∨ e.kind = 2
   · rw [if_pos h12, if_pos h12]; rfl
   rw [if_neg h12, if_neg h12]
   obtain ⟨f0, hf0, _, _, ho, _⟩ := acc_obj h ha (by omega)
   rw [show objAt (knowS (buildS l) e).objs (evObj e) = some (objB l l f0) from ho]
   simp only
   by_cases h7 : e.kind = 7
   · rw [if_pos h7, if_pos h7]; rfl
   rw [if_neg h7, if_neg h7]
   by_cases h6 : e.kind = 6
   · rw [if_pos h6, if_pos h6]; rfl
   · rw [if_neg h6, if_neg h6]; rfl
 · rw [hb]
   unfold applyS doS bStep
   by_cases h8 : e.kind = 8
   · have hlt : getV (bldP (l ++ [e]) l).2 e.rep < e.seq := by
      unfold getV; rw [if_pos ⟨n1, n2⟩, w3]
      have := latest_le l l (e.rep - 1).toNat
      omega
     rw [if_pos h8, if_neg (by omega), if_pos h8, if_pos hlt]
     simp only [seatS, w1]; rfl
   rw [if_neg h8, if_neg h8]
   by_cases h9 : e.kind = 9
   · rw [if_pos h9, if_neg (by omega), if_pos h9]
     simp only [retS, w1]; rfl
   rw [if_neg h9, if_neg h9]
   by_cases h12 : e.kind = 1 ∨ e.kind = 2
   · rw [if_pos h12, if_pos h12]; simp only [w1]; rfl
   rw [if_neg h12, if_neg h12]
   obtain ⟨f0, hf0, _, _, ho, _⟩ := acc_obj h ha (by omega)
   rw [show objAt (knowS (buildS l) e).objs (evObj e) = some (objB l l f0) from ho]
   simp only
   rw [w1]
   split
   · rfl
   · split <;> rfl
 · rw [hb]
   unfold applyS doS bStep
   by_cases h8 : e.kind = 8
   · rw [if_pos h8, if_neg (by omega), if_pos h8]
     split
     · simp only [seatS, w2]; rfl
     · simp only [seatS, w2]; rfl
   rw [if_neg h8, if_neg h8]
   by_cases h9 : e.kind = 9
   · rw [if_pos h9, if_neg (by omega), if_pos h9]
     simp only [retS, w2]; rfl
   rw [if_neg h9, if_neg h9]
   by_cases h12 : e.kind = 1 ∨ e.kind = 2
   · rw [if_pos h12, if_pos h12]; simp only [w2]; rfl
   rw [if_neg h12, if_neg h12]
   obtain ⟨f0, hf0, _, _, ho, _⟩ := acc_obj h ha (by omega)
   rw [show objAt (knowS (buildS l) e).objs (evObj e) = some (objB l l f0) from ho]
   simp only
   rw [w2]
   split
   · rfl
   · split <;> rfl
theorem resS_ok {l : List Evt} {e : Evt} (h : Val l) (hw : whyS (buildS l) e = 0) : resS (buildS l) e = buildS (l ++ [e]) := by
 unfold resS; rw [if_pos hw, build_snoc h (acc_iff.1 hw)]
theorem val_in {l : List Evt} (h : Val l) (hn : l.length ≤ 400) : StIn (buildS l) := by
 obtain ⟨s1, l1, m1⟩ := mem_objs h.nod
 have hv : ∀ o ∈ (buildS l).objs, ∃ f ∈ l, o.vers = versG l (evId f) l := fun o ho => by
  obtain ⟨f, hf, _, rfl⟩ := (m1 o).1 ho
  exact ⟨f, hf, objB_vers l f l⟩
 have hs := (mem_entsG (l := l) l h.nod).1
 refine ⟨⟨⟨by omega, fun o ho => ?_, ?_⟩, s1, ?_⟩, fun o ho => ?_, fun o ho v hq => ?_, fun o ho v hq => ?_⟩
 · obtain ⟨f, hf, e⟩ := hv o ho
   rw [e]; have := (mem_vers h.nod (evId f)).2.1; omega
 · rw [bld_entsS]; have := entsG_len l l.length l rfl; omega
 · rw [bld_entsS]; exact hs
 · obtain ⟨f, hf, e⟩ := hv o ho
   rw [e]; exact (mem_vers h.nod (evId f)).1
 · obtain ⟨f, hf, e⟩ := hv o ho
   rw [e] at hq
   obtain ⟨g, hg, hc, rfl⟩ := ((mem_vers h.nod (evId f)).2.2 v).1 hq
   exact (val_bytes h g hg hc.1).1
 · obtain ⟨f, hf, e⟩ := hv o ho
   rw [e] at hq
   obtain ⟨g, hg, hc, rfl⟩ := ((mem_vers h.nod (evId f)).2.2 v).1 hq
   rw [bld_known]
   exact h.has.2 ⟨g, hg, rfl⟩
theorem check_rest {e : Evt} (h : checkB e = true) (hw : wrB e = false) : e.base.l = [] ∧ e.data = [] := by
 obtain ⟨b1, b2, b3, b4, b5, b6, b7⟩ := check_base h
 have hz := (check_k' h).2
 have hk : ¬ (e.kind = 3 ∨ e.kind = 4 ∨ e.kind = 5) := of_decide_eq_false hw
 have h4 : e.kind = 1 ∨ e.kind = 2 ∨ e.kind = 6 ∨ e.kind = 7 ∨ e.kind = 8 ∨ e.kind = 9 := by omega
 rcases h4 with k | k | k | k | k | k
 · skip
   rw [zb_1 k] at hz; simp only [madeB, Bool.and_eq_true, Bool.or_eq_true, decide_eq_true_eq, Bool.false_eq_true, false_or, true_or, true_and] at hz
   exact ⟨List.length_eq_zero_iff.1 (by omega), hz.2.2.2.2.1⟩
 · skip
   rw [zb_2 k] at hz; simp only [madeB, Bool.and_eq_true, Bool.or_eq_true, decide_eq_true_eq, Bool.false_eq_true, false_or, true_or, true_and] at hz
   exact ⟨List.length_eq_zero_iff.1 (by omega), hz.2.2.2.2.1⟩
 · skip
   rw [zb_6 k] at hz; simp only [madeB, Bool.and_eq_true, Bool.or_eq_true, decide_eq_true_eq, Bool.false_eq_true, false_or, true_or, true_and] at hz
   exact ⟨List.length_eq_zero_iff.1 (by omega), hz.2.2.2.1⟩
 · skip
   rw [zb_7 k] at hz; simp only [madeB, Bool.and_eq_true, Bool.or_eq_true, decide_eq_true_eq, Bool.false_eq_true, false_or, true_or, true_and] at hz
   exact ⟨List.length_eq_zero_iff.1 (by omega), hz.2.2.1⟩
 · skip
   rw [zb_8 k] at hz; simp only [madeB, Bool.and_eq_true, Bool.or_eq_true, decide_eq_true_eq, Bool.false_eq_true, false_or, true_or, true_and] at hz
   exact ⟨List.length_eq_zero_iff.1 (by omega), hz.2.2.2.2.2.1⟩
 · skip
   rw [zb_9 k] at hz; simp only [madeB, Bool.and_eq_true, Bool.or_eq_true, decide_eq_true_eq, Bool.false_eq_true, false_or, true_or, true_and] at hz
   exact ⟨List.length_eq_zero_iff.1 (by omega), hz.2.2.2.2.2.1⟩
def rkL (l : List Evt) (e : Evt) : Nat := l.findIdx fun x => decide (evId x = evId e)
theorem val_evs {l : List Evt} (h : Val l) (hn : l.length ≤ 400) : EvsOk l (rkL l) := by
 refine ⟨hn, h.nod, fun e he => ?_, fun e he h5 b t hb e' hf => ?_, fun e he => ?_⟩
 · obtain ⟨a, c, _, _, hv, h3⟩ := h.mem he
   refine ⟨hv, ?_⟩
   by_cases hw : wrB e = true
   · have := check_data h3.ck hw; omega
   · rw [(check_rest h3.ck (by simpa using hw)).2]; simp
 · obtain ⟨a, c, rfl, h1, hv, h3⟩ := h.mem he
   by_cases hw : wrB e = true
   · obtain ⟨_, _, g, hg, _, _, hi, _⟩ := acc_base h1 h3 hw b (by rw [hb]; simp)
     have hi' : evId e' = b := by simpa using List.find?_some hf
     have e1 : rkL (a ++ e :: c) e' < a.length := by
      unfold rkL
      rw [List.findIdx_append]
      have : List.findIdx (fun x => decide (evId x = evId e')) a < a.length := List.findIdx_lt_length_of_exists ⟨g, hg, by simp [hi, hi']⟩
      rw [if_pos this]; exact this
     have e2 : a.length ≤ rkL (a ++ e :: c) e := by
      unfold rkL
      rw [List.findIdx_append]
      have : ¬ List.findIdx (fun x => decide (evId x = evId e)) a < a.length := fun q => by
       have := List.findIdx_getElem (w := q)
       simp only [decide_eq_true_eq] at this
       exact acc_new h1 h3 _ (List.getElem_mem _) this
      rw [if_neg this]; omega
     omega
   · rw [(check_rest h3.ck (by simpa using hw)).1] at hb; cases hb
 · exact List.findIdx_lt_length_of_exists ⟨e, he, by simp⟩
theorem val_rep {l : List Evt} (h : Val l) : ∀ e ∈ l, 1 ≤ e.rep ∧ e.rep ≤ 8 := fun e he => by
 obtain ⟨a, c, _, _, hv, h3⟩ := h.mem he
 exact ⟨(check_base h3.ck).1, (check_base h3.ck).2.1⟩
open Classical in
noncomputable def takS (out : List Evt) (e : Evt) : List Evt := if whyS (buildS out) e = 0 then out ++ [e] else out
noncomputable def takeL (l : List Evt) : List Evt := l.foldl takS []
theorem takeL_snoc (l : List Evt) (e : Evt) : takeL (l ++ [e]) = takS (takeL l) e := by simp [takeL]
theorem takeL_ok : ∀ l : List Evt, (∀ e ∈ l, ev e) → Val (takeL l) ∧ (takeL l).length ≤ l.length ∧ ∀ e ∈ takeL l, e ∈ l :=
 snocR (fun _ => ⟨Val.nil, Nat.le_refl _, fun e he => by cases he⟩) fun l e ih hl => by
  obtain ⟨h1, h2, h3⟩ := ih fun f hf => hl f (List.mem_append_left _ hf)
  rw [takeL_snoc]
  unfold takS
  split
  · rename_i hw
    refine ⟨Val.snoc h1 (hl e (by simp)) hw, by simp only [List.length_append, List.length_singleton]; omega, fun f hf => ?_⟩
    rcases List.mem_append.1 hf with hf | hf
    · exact List.mem_append_left _ (h3 f hf)
    · exact List.mem_append_right _ hf
  · exact ⟨h1, by simp only [List.length_append, List.length_singleton]; omega, fun f hf => List.mem_append_left _ (h3 f hf)⟩
theorem fits_ent (x : Ent) : fits [K1.int .i64, K1.int .u32, K1.int .i64, K1.int .u32, .str, K1.int .i64, K1.int .u32, .int .u32, .int .u32, .int .u32, .int .u32, .int .u32, .int .u32, .int .u32, .int .u32] (entE x) = True := eq_true rfl
theorem peq_refl (c : List PV) : peq c c = true := by simp [peq]
def stSameEn (f g : Bool) (l m : List Ent) (k : Nat) : FS := mk [(5, .pv (.i .i64 k)), (0, .pv (.sl f 15 (l.map entE))), (1, .pv (.sl g 15 (m.map entE)))] []
theorem okSameEn {x y : SV} {f g : Bool} {l m : List Ent} {h d} (hx : lents h [x, y] = [.pv (.sl f 15 (l.map entE)), .pv (.sl g 15 (m.map entE))]) (hl : lendable [x, y] = true) (he : l = m) (hn : l.length ≤ 1000) :
 FunOk Tryz.prog 38 [x, y] h d (.pv (.b true)) [] := by
 refine fun_scalar mixed fn38 (by simp) hl rfl fun F => ?_
 subst he
 rw [hx]
 simp (disch := omega) only [ir38, List.length_map, go_sem]
 refine loop_ok mixed (stSameEn f g l l) (fun k => k ≤ l.length) (fun k => l.length - k) 0 (by simp) (weak_mk ?_ ?_) fun k hk => ?_
 · simp (disch := omega) only [go_sem]
 · simp (disch := omega) only [go_sem]
 by_cases hlt : k < l.length
 · have h2 : (l.map entE)[k]? = some (entE l[k]) := by simp [hlt]
   generalize l[k] = v at *
   have hp := peq_refl (entE v)
   have hf := fits_ent v
   simp (disch := omega) only [stSameEn, List.length_map, h2, ld_ent, hp, hf, go_sem]
   refine loop_next (k + 1) _ _ rfl (by omega) (by omega) ?_ ?_
   · simp (disch := omega) only [go_sem]
   · simp (disch := omega) only [go_sem]
 · simp (disch := omega) only [stSameEn, List.length_map, go_sem]
end Go.Proofs.YthhomcfimdkfhaaGreat.Fw
