/- What the functions compute that the laws of this seat reach. -/
import Derived.Test.YthhomcfimdkfhaaGreatWalk1
import Derived.OpenShut
import Derived.ShutString
import Derived.ChangeOld
import Derived.SizedLaws
import Derived.ChangeOld
import Derived.Lib.Bytealg
import Derived.Lib.Overlaps
import Derived.OpenShut
import Derived.ShutString
import Derived.SizedLaws
set_option linter.unusedVariables false
set_option linter.unusedSimpArgs false
set_option linter.unusedSectionVars false
set_option maxRecDepth 100000
namespace Go.Proofs.YthhomcfimdkfhaaGreat.Fw
open Go.RowKit Go.Proofs
structure Obj where
 id : Bi
 dir : Bool
 last : Bi
 name : List UInt8
 seen : Vc
 vers : List Ver
def E6 (f : Bool) (z : Nat) (o : Obj) : List PV := [.i .i64 o.id.1, .i .u32 o.id.2, .b o.dir, .i .i64 o.last.1, .i .u32 o.last.2, .s o.name] ++ vE o.seen ++ [.sl f z (o.vers.map A4)]
def Ax (o : Obj) : List PV := E6 false 11 o
theorem D7 (f z) (o : Obj) : (E6 f z o).length = 15 := by simp [E6, Bl]
theorem D8 (o : Obj) : (Ax o).length = 15 := D7 _ _ o
theorem Aha {f : Bool} {z : Nat} (o : Obj) (h : o.vers = [] ∨ z = 11) : PImpL (E6 f z o) (Ax o) := by
 refine PImpL.app (PImpL.refl _) ⟨Ju (by simp) (h.imp (fun e => by rw [e]; rfl) id) (.refl _), trivial⟩
theorem Ajt (f : Bool) (z : Nat) (o : Obj) (K : KK) : LoadK (some (E6 f z o)) 0 2 true K = K (.vec 2 ([.i .i64 o.id.1, .i .u32 o.id.2])) [] := by
 simp only [LoadK, Ik, eq_iff_iff];have e : ((E6 f z o).drop 0).take 2 = [.i .i64 o.id.1, .i .u32 o.id.2] := by
  obtain ⟨i, b, l, n, s, v⟩ := o;simp only [E6, vE, Cy]; rfl
 rw [e];exact ⟨fun h => h.2.2, fun h => ⟨by simp [D7], .inl trivial, h⟩⟩
theorem Acn (f : Bool) (z : Nat) (o : Obj) (K : KK) : LoadK (some (E6 f z o)) 3 2 true K = K (.vec 2 ([.i .i64 o.last.1, .i .u32 o.last.2])) [] := by
 simp only [LoadK, Ik, eq_iff_iff];have e : ((E6 f z o).drop 3).take 2 = [.i .i64 o.last.1, .i .u32 o.last.2] := by
  obtain ⟨i, b, l, n, s, v⟩ := o;simp only [E6, vE, Cy]; rfl
 rw [e];exact ⟨fun h => h.2.2, fun h => ⟨by simp [D7], .inl trivial, h⟩⟩
theorem Acl (f : Bool) (z : Nat) (o : Obj) (K : KK) : LoadK (some (E6 f z o)) 6 8 true K = K (.vec 8 (vE o.seen)) [] := by
 simp only [LoadK, Ik, eq_iff_iff];have e : ((E6 f z o).drop 6).take 8 = vE o.seen := by
  obtain ⟨i, b, l, n, s, v⟩ := o;simp only [E6, vE, Cy]; rfl
 rw [e];exact ⟨fun h => h.2.2, fun h => ⟨by simp [D7], .inl trivial, h⟩⟩
theorem Ae2 (f : Bool) (z : Nat) (o : Obj) (K : KK) : LoadK (some (E6 f z o)) 2 1 false K = K (.pv (.b o.dir)) [] := by
 simp only [LoadK, Ik, eq_iff_iff];have e : (E6 f z o).getD 2 (.b false) = .b o.dir := by
  obtain ⟨i, b, l, n, s, v⟩ := o;simp only [E6, vE, Cy]; rfl
 rw [e];exact ⟨fun h => h.2.2, fun h => ⟨by simp [D7], .inr trivial, h⟩⟩
theorem Acm (f : Bool) (z : Nat) (o : Obj) (K : KK) : LoadK (some (E6 f z o)) 5 1 false K = K (.pv (.s o.name)) [] := by
 simp only [LoadK, Ik, eq_iff_iff];have e : (E6 f z o).getD 5 (.b false) = .s o.name := by
  obtain ⟨i, b, l, n, s, v⟩ := o;simp only [E6, vE, Cy]; rfl
 rw [e];exact ⟨fun h => h.2.2, fun h => ⟨by simp [D7], .inr trivial, h⟩⟩
theorem Ack (f : Bool) (z : Nat) (o : Obj) (K : KK) : LoadK (some (E6 f z o)) 14 1 false K = K (.pv (.sl f z (o.vers.map A4))) [] := by
 simp only [LoadK, Ik, eq_iff_iff];have e : (E6 f z o).getD 14 (.b false) = .sl f z (o.vers.map A4) := by
  obtain ⟨i, b, l, n, s, v⟩ := o;simp only [E6, vE, Cy]; rfl
 rw [e];exact ⟨fun h => h.2.2, fun h => ⟨by simp [D7], .inr trivial, h⟩⟩
theorem At9 (f : Bool) (z : Nat) (o : Obj) (K : KK) : LoadK (some (E6 f z o)) 0 15 true K = K (.vec 15 (E6 f z o)) [] := by
 simp only [LoadK, Ik, eq_iff_iff];have e : ((E6 f z o).drop 0).take 15 = E6 f z o := List.take_of_length_le (by simp [D7]);rw [e];exact ⟨fun h => h.2.2, fun h => ⟨by simp [D7], .inl trivial, h⟩⟩
theorem H2 (o : Obj) (K : KK) : LoadK (some (Ax o)) 0 2 true K = K (.vec 2 [.i .i64 o.id.1, .i .u32 o.id.2]) [] := Ajt _ _ o K
theorem Jg (o : Obj) (K : KK) : LoadK (some (Ax o)) 3 2 true K = K (.vec 2 [.i .i64 o.last.1, .i .u32 o.last.2]) [] := Acn _ _ o K
theorem Li (o : Obj) (K : KK) : LoadK (some (Ax o)) 6 8 true K = K (.vec 8 (vE o.seen)) [] := Acl _ _ o K
theorem Dt (o : Obj) (K : KK) : LoadK (some (Ax o)) 2 1 false K = K (.pv (.b o.dir)) [] := Ae2 _ _ o K
theorem O4 (o : Obj) (K : KK) : LoadK (some (Ax o)) 5 1 false K = K (.pv (.s o.name)) [] := Acm _ _ o K
theorem D3 (o : Obj) (K : KK) : LoadK (some (Ax o)) 14 1 false K = K (.pv (.sl false 11 (o.vers.map A4))) [] := Ack _ _ o K
theorem Gp (o : Obj) (K : KK) : LoadK (some (Ax o)) 0 15 true K = K (.vec 15 (Ax o)) [] := At9 _ _ o K
theorem Abi (o : Obj) (i : Bi) : splice (Ax o) 3 ([.i .i64 i.1, .i .u32 i.2]) = Ax { o with last := i } := by
 obtain ⟨i, b, l, n, s, v⟩ := o;simp only [splice, Ax, E6, vE, Cy]; rfl
theorem Abh (o : Obj) (s : List UInt8) : splice (Ax o) 5 ([.s s]) = Ax { o with name := s } := by
 obtain ⟨i, b, l, n, s, v⟩ := o;simp only [splice, Ax, E6, vE, Cy]; rfl
theorem Abg (o : Obj) (v : Vc) : splice (Ax o) 6 (vE v) = Ax { o with seen := v } := by
 obtain ⟨i, b, l, n, s, v⟩ := o;simp only [splice, Ax, E6, vE, Cy]; rfl
theorem Uo (o : Obj) (f : Bool) (z : Nat) (l : List Ver) : splice (Ax o) 14 ([.sl f z (l.map A4)]) = E6 f z { o with vers := l } := by
 obtain ⟨i, b, l, n, s, v⟩ := o;simp only [splice, Ax, E6, vE, Cy]; rfl
def obN (o : Obj) : Ent := ⟨o.id, (0, 0), [], (0, 0), fun _ => 0⟩
def Ef (l : List Obj) : Prop := Dl (l.map obN)
def Ca (l : List Obj) (i : Bi) : Nat := Fx (l.map obN) i
def isO (l : List Obj) (i : Bi) : Bool := Qc (l.map obN) i
structure St where
 known : Vc
 objs : List Obj
 ents : List Ent
 wards : Nat → Int
 ret : Nat → Bool
def A7 (s : St) (x y : SV) : List SV := [.vec 8 (vE s.known), x, y, .vec 8 (iE s.wards), .vec 8 (wE s.ret)]
def Bd (s : St) : List SV := A7 s (.pv (.sl false 15 (s.objs.map Ax))) (.pv (.sl false 15 (s.ents.map Bh)))
def st0 : St := ⟨fun _ => 0, [], [], fun _ => 0, fun _ => false⟩
theorem Zf {s : St} {f g : Bool} {y z : Nat} {es fs : List (List PV)} (hy : es = [] ∨ y = 15) (hz : fs = [] ∨ z = 15) (he : PImpR es (s.objs.map Ax)) (hf : PImpR fs (s.ents.map Bh)) : Imp (.agg (A7 s (.pv (.sl f y es)) (.pv (.sl g z fs)))) (.agg (Bd s)) :=
 Apa ⟨⟨Imp.refl _, rfl⟩, ⟨Aaa (Ju (by simp) hy he), rfl⟩, ⟨Aaa (Ju (by simp) hz hf), rfl⟩, ⟨Imp.refl _, rfl⟩, ⟨Imp.refl _, rfl⟩, trivial⟩
theorem Uv : Imp (.agg [.vec 8 (List.replicate 8 (.i .u32 0)), .pv (.sl true 0 []), .pv (.sl true 0 []), .vec 8 (List.replicate 8 (.i .i64 0)), .vec 8 (List.replicate 8 (.b false))]) (.agg (Bd st0)) :=
 Zf (s := st0) (.inl rfl) (.inl rfl) trivial trivial
theorem Ayl {m n lo hi : Nat} {es fs : List (List PV)} {h} (hm : h m = some (.row 15 fs)) (hn : h n = some (.row 15 es)) (hne : m ≠ n) (hfs : fs ≠ []) (hes : es ≠ []) (hlt : lo < hi) : Yo Tryz.prog 102 [.os m, .ov n 15 lo hi] h (.pv (.b false)) := by
 intro F N ρ s a w hR hh vs hc;simp only [ConcL] at hc;obtain ⟨v, us, rfl, hv, u, us', rfl, hu, rfl⟩ := hc;have hsm := (hh m (by simp [A8, tn])).trans hm;have hsn := (hh n (by simp [A8, tn])).trans hn;refine ⟨.bool false, ?_, E4⟩;rw [run_callFunc_extern (fn := (Tryz.prog.funcs[102]?).getD default) (by kernel_rfl) (by kernel_rfl) (by kernel_rfl) (by kernel_rfl) (e := Extern.SlicesOverlaps.overlaps #[28, 28] #[4]) (by kernel_rfl)];rw [Ja (tS := 28) (e := 47) (by kernel_rfl) (by kernel_rfl) (by decide) hR hsm hsn hne hfs hes hlt hv hu];rfl
set_option maxHeartbeats 4000000 in
theorem U6 (es : List (List PV)) (cs : List PV) (i : Nat) (hi : i ≤ es.length) (hb : es.length ≤ 1000) (hes : ∀ c ∈ es, c.length = 15) (hcs : cs.length = 15) {h d} (h1 : h 900 = some (.row 15 es)) (h2 : h 901 = some (.row 15 [cs])) : FunOk Tryz.prog 76 [.os 900, .pv (.i .i64 i), .os 901] h d (.os d) [.del 900, .del 901, .new d (.row 15 (es.take i ++ cs :: es.drop i))] := by
 refine Aad Ae fn76 (by simp) rfl fun F => ?_;simp only [Cp];by_cases he : i = es.length
 · subst he;have e1 : es.take es.length ++ cs :: es.drop es.length = es ++ [cs] := by simp
   rw [e1];simp (disch := omega) only [ir76, h1, h2, go_sem]
 · have hne : es ≠ [] := by intro e; subst e; simp at hi; exact he (by simpa using hi)
   simp (disch := omega) only [ir76, h1, h2, go_sem];intro c hc;by_cases hcap : c < es.length + 1
   · have hp : ((c : Int) < (es.length : Int) + ((1 : Nat) : Int)) = True := eq_true (by omega);have ek : ((es.length : Int) + ((1 : Nat) : Int) - (i : Int)).toNat = es.length + 1 - i := by omega
     (try simp only [De, Dd, Dc, Db, Da, C9, C8, C7]); simp (disch := omega) only [hp, ek, go_sem]
     generalize hT : List.take i es ++ List.replicate (es.length + 1 - i) _ = T;have hTl : T.length = es.length + 1 := by rw [← hT]; simp; omega
     have t1 : T.take i = es.take i := by
      rw [← hT, List.take_append_of_le_length (by simp; omega), List.take_take, Nat.min_self]
     have hi' : (es.take i).length = i := by simp; omega
     have m1 : min 1 (es.length + 1 - i) = 1 := by omega
     have m2 : [cs].take (es.length + 1 - i) = [cs] := List.take_of_length_le (by simp; omega);have hU : (es.take i ++ [cs] ++ T.drop (i + 1)).length = es.length + 1 := by simp [hTl]; omega
     have e1 : ((i : Int) + ((1 : Nat) : Int)).toNat = i + 1 := by omega
     have u1 : (es.take i ++ [cs] ++ T.drop (i + 1)).take (i + 1) = es.take i ++ [cs] := by
      rw [List.take_append_of_le_length (by simp; omega)];exact List.take_of_length_le (by simp; omega)
     have u2 : (es.take es.length).drop i = es.drop i := by rw [List.take_length]
     have u3 : min (es.drop i).length (es.length + 1 - (i + 1)) = es.length - i := by simp
     have u4 : (es.drop i).take (es.length + 1 - (i + 1)) = es.drop i := List.take_of_length_le (by simp);have u5 : (es.take i ++ [cs] ++ T.drop (i + 1)).drop (i + 1 + (es.length - i)) = [] := List.drop_of_length_le (by rw [hU]; omega);have u6 : es.take i ++ cs :: es.drop i = es.take i ++ [cs] ++ es.drop i := by simp
     simp only [hTl, t1, m1, m2, e1, List.length_singleton];simp only [hU, u1, u2, u3, u4, u5, u6, List.append_nil];exact ⟨by omega, by omega, trivial⟩
   · have hp : ((c : Int) < (es.length : Int) + ((1 : Nat) : Int)) = False := eq_false (by omega)
     (try simp only [De, Dd, Dc, Db, Da, C9, C8, C7]); simp (disch := omega) only [hp, go_sem]
     intro g hg hgs;have hg1 : g.length = 1 := by omega
     have e1 : ((i : Int) + ((1 : Nat) : Int)).toNat = i + 1 := by omega
     have hE : (es ++ g).length = es.length + 1 := by simp [hg1]
     refine ⟨by omega, ?_⟩;rw [e1];refine Qs (Ayl (es := es ++ g) (fs := [cs]) rfl rfl (by decide) (by simp) (by simp [hne]) (by omega)) ?_;have v1 : ((es ++ g).take (es ++ g).length).drop i = (es ++ g).drop i := by rw [List.take_length]
     have v2 : min ((es ++ g).drop i).length ((es ++ g).length - (i + 1)) = es.length - i := by simp [hg1]; omega
     have v3 : ((es ++ g).drop i).take ((es ++ g).length - (i + 1)) = es.drop i := by
      rw [hE, List.drop_append_of_le_length hi, show es.length + 1 - (i + 1) = (es.drop i).length from by simp];exact List.take_left
     have v4 : (es ++ g).drop (i + 1 + (es.length - i)) = [] := List.drop_of_length_le (by omega);have v5 : ((es ++ g).take (i + 1) ++ es.drop i).length = es.length + 1 := by simp [hg1]; omega
     have v6 : ((es ++ g).take (i + 1) ++ es.drop i).take i = es.take i := by
      rw [List.take_append_of_le_length (by simp; omega), List.take_take, Nat.min_eq_left (by omega), List.take_append_of_le_length hi]
     have v7 : ((es ++ g).take (i + 1) ++ es.drop i).drop (i + 1) = es.drop i := by
      rw [List.drop_append_of_le_length (by simp; omega), List.drop_of_length_le (by simp; omega), List.nil_append]
     have m1 : min 1 (es.length + 1 - i) = 1 := by omega
     have m2 : [cs].take (es.length + 1 - i) = [cs] := List.take_of_length_le (by simp; omega);have u6 : es.take i ++ cs :: es.drop i = es.take i ++ [cs] ++ es.drop i := by simp
     simp (disch := omega) only [e1, v1, v2, v3, v4, v5, v6, v7, m1, m2, u6, go_sem]
theorem Anp {m n : Nat} (es : List (List PV)) (cs : List PV) (i : Nat) (hi : i ≤ es.length) (hb : es.length ≤ 1000) (hes : ∀ c ∈ es, c.length = 15) (hcs : cs.length = 15) (hmn : m ≠ n) (hm : m < 900) (hn : n < 900) {h d} (hd : d ≠ m ∧ d ≠ n ∧ d < 900) (h1 : h m = some (.row 15 es)) (h2 : h n = some (.row 15 [cs])) : FunOk Tryz.prog 76 [.os m, .pv (.i .i64 i), .os n] h d (.os d) [.del m, .del n, .new d (.row 15 (es.take i ++ cs :: es.drop i))] := by
 have hπ := Agk (a := 900) (m := m) (b := 901) (n := n) (by omega) (by omega) (by omega) hmn;have e1 : Yy 900 m 901 n 900 = m := by unfold Yy; simp
 have e2 : Yy 900 m 901 n 901 = n := by unfold Yy; repeat' split <;> (try omega)
 have e3 : Yy 900 m 901 n d = d := by unfold Yy; repeat' split <;> (try omega)
 have := (U6 es cs i hi hb hes hcs (h := fun k => (h (Yy 900 m 901 n k))) (d := d) (by rw [← h1, e1]) (by rw [← h2, e2])).rn (π := Yy 900 m 901 n) hπ (d' := d);simp only [SV.rnL, SV.rn, HU.rn, Blk.rn, List.map_cons, List.map_nil, e1, e2, e3] at this;refine this.at fun k hk => ?_;simp only [A8, tn, List.append_nil, List.nil_append, List.mem_append, List.mem_singleton] at hk;simp only [hπ];rcases hk with rfl | rfl
 · rw [h1]; rfl
 · rw [h2]; rfl
theorem An5 (x : Obj) (b : Bi) {h d} : FunOk Tryz.prog 82 [.vec 15 (Ax x), .vec 2 [.i .i64 b.1, .i .u32 b.2]] h d (.pv (.i .i64 (Ij x.id b))) [] := by
 refine Au Ae fn82 (by simp) rfl rfl fun F => ?_;simp (disch := omega) only [ir82, H2, go_sem];refine Aa (Mo _ _ _ _) ?_;by_cases h1 : Bp x.id.1 x.id.2 b.1 b.2 = true
 · have e : Ij x.id b = -1 := if_pos h1;simp (disch := omega) only [h1, e, go_sem]
 · have h1' : Bp x.id.1 x.id.2 b.1 b.2 = false := by simpa using h1
   simp (disch := omega) only [h1', H2, go_sem];refine Aa (Mo _ _ _ _) ?_;by_cases h2 : Bp b.1 b.2 x.id.1 x.id.2 = true
   · have e : Ij x.id b = 1 := by unfold Ij; rw [if_neg h1, if_pos h2]
     simp (disch := omega) only [h2, e, go_sem]
   · have h2' : Bp b.1 b.2 x.id.1 x.id.2 = false := by simpa using h2
     have e : Ij x.id b = 0 := by unfold Ij; rw [if_neg h1, if_neg h2]
     simp (disch := omega) only [h2', e, go_sem]
theorem Ahc {l : List Obj} {j : Nat} {y : Ent} (h : (l.map obN)[j]? = some y) : ∃ o, l[j]? = some o ∧ y.id = o.id := by
 rw [List.getElem?_map] at h;obtain ⟨o, h1, h2⟩ := Option.map_eq_some_iff.1 h;exact ⟨o, h1, by rw [← h2]; rfl⟩
theorem Tp {l : List Obj} {j : Nat} {o : Obj} (h : l[j]? = some o) : (l.map obN)[j]? = some (obN o) := by rw [List.getElem?_map, h]; rfl
theorem Hf {l : List Obj} (hs : Ef l) {j m : Nat} {x v : Obj} (hj : l[j]? = some x) (hm : l[m]? = some v) (h : j < m) : Hj x.id v.id = true := Uq (l := l.map obN) hs (Tp hj) (Tp hm) h
theorem As8 {l : List Obj} {i : Bi} {k : Nat} (hk : k ≤ l.length) (h1 : ∀ j x, j < k → l[j]? = some x → Hj x.id i = true) (h2 : ∀ x, l[k]? = some x → ¬ Hj x.id i = true) : Ca l i = k :=
 Agy (l := l.map obN) (by simpa using hk) (fun j x hj hx => by
  obtain ⟨o, h3, h4⟩ := Ahc hx;rw [h4]; exact h1 j o hj h3) fun x hx => by
  obtain ⟨o, h3, h4⟩ := Ahc hx;rw [h4]; exact h2 o h3
theorem P0 (l : List Obj) (i : Bi) : Ca l i ≤ l.length := by have := Zl (l.map obN) i; simpa [Ca] using this
theorem Qb {l : List Obj} (hs : Ef l) (i : Bi) : isO l i = match l[Ca l i]? with | some x => decide (x.id = i) | none => false := by
 have h := P6 (l := l.map obN) hs i;unfold isO Qc;rw [h];show _ = match l[Ca l i]? with | some x => decide (x.id = i) | none => false
 unfold Ca;cases hx : l[Fx (l.map obN) i]? with
 | none => rw [List.getElem?_map, hx]; rfl
 | some x =>
   rw [List.getElem?_map, hx];show (if x.id = i then some (obN x) else none).isSome = decide (x.id = i);by_cases e : x.id = i <;> simp [e]
theorem Azj {l : List Obj} (hs : Ef l) {i : Bi} (h : isO l i = true) : ∃ o, l[Ca l i]? = some o ∧ o.id = i := by
 rw [Qb hs] at h;cases hx : l[Ca l i]? with
 | none => rw [hx] at h; cases h
 | some x => rw [hx] at h; exact ⟨x, rfl, by simpa using h⟩
def Zb (f : Bool) (l : List Obj) (i : Bi) (p : Nat × Nat) : FS := mk [(9, .pv (.i .i64 p.1)), (10, .pv (.i .i64 p.2)), (8, .pv (.i .i64 l.length)), (0, .pv (.sl f 15 (l.map Ax))), (2, .fn (.func 82) []), (4, .p 4 0)] [(4, some (.var (.vec 2 [.i .i64 i.1, .i .u32 i.2])))]
set_option maxHeartbeats 1000000 in
theorem Ayt {x : SV} {f : Bool} {l : List Obj} (i : Bi) {h d} (hx : Co h [x, .vec 2 [.i .i64 i.1, .i .u32 i.2], .fn (.func 82) []] = [.pv (.sl f 15 (l.map Ax)), .vec 2 [.i .i64 i.1, .i .u32 i.2], .fn (.func 82) []]) (hl : Bc [x, .vec 2 [.i .i64 i.1, .i .u32 i.2], .fn (.func 82) []] = true) (hs : Ef l) (hn : l.length ≤ 1000) :
 FunOk Tryz.prog 81 [x, .vec 2 [.i .i64 i.1, .i .u32 i.2], .fn (.func 82) []] h d (.tup [.pv (.i .i64 (Ca l i)), .pv (.b (isO l i))]) [] := by
 refine Cn Ae fn81 (by simp) hl rfl fun F => ?_;rw [hx];simp (disch := omega) only [ir81, List.length_map, go_sem];refine A1 Ae (Zb f l i) (fun p => p.1 ≤ p.2 ∧ p.2 ≤ l.length ∧ (∀ j x, j < p.1 → l[j]? = some x → Hj x.id i = true) ∧ ∀ j x, p.2 ≤ j → l[j]? = some x → ¬ Hj x.id i = true) (fun p => p.2 - p.1) (0, l.length) ⟨by simp, by simp, by simp, fun j x hj hx => by simp only at hj; rw [List.getElem?_eq_none hj] at hx; cases hx⟩ (Am ?_ ?_) fun p hp => ?_
 · (try simp only [De, Dd, Dc, Db, Da, C9, C8, C7]); simp (disch := omega) only [go_sem]
 · simp (disch := omega) only [go_sem]
 obtain ⟨a, b⟩ := p;obtain ⟨p1, p2, p3, p4⟩ := hp;simp only at p1 p2 p3 p4;by_cases hlt : a < b
 · have hm : (a + b) / 2 < l.length := by omega
   have hx : l[(a + b) / 2]? = some l[(a + b) / 2] := List.getElem?_eq_getElem hm;have he : (l.map Ax)[(a + b) / 2]? = some (Ax l[(a + b) / 2]) := by rw [List.getElem?_map, hx]; rfl
   have e1 : ((a : Int) + (b : Int)).fdiv (2 ^ min (Int.toNat 1) 64) = (((a + b) / 2 : Nat) : Int) := by
    rw [show (2 : Int) ^ min (Int.toNat 1) 64 = 2 from rfl, Int.fdiv_eq_ediv_of_nonneg _ (by omega)]; omega
   have hm1 : a ≤ (a + b) / 2 := by omega
   have hm2 : (a + b) / 2 < b := by omega
   generalize l[(a + b) / 2] = v at *;generalize (a + b) / 2 = m at *;simp (disch := omega) only [Zb, List.length_map, e1, he, Gp, go_sem];refine Aa (An5 v i) ?_;by_cases hc : Hj v.id i = true
   · have e2 : (Ij v.id i < 0) = True := by rw [Tu]; exact eq_true hc
     simp (disch := omega) only [e2, go_sem];refine Ad (x := (a, b)) (m + 1, b) _ _ rfl ⟨by show m + 1 ≤ b; omega, p2, fun j x hj hx' => ?_, p4⟩ (by show b - (m + 1) < b - a; omega) ?_ ?_
     · by_cases e : j = m
       · subst e; rw [hx] at hx'; cases hx'; exact hc
       · exact E8 (Hf hs hx' hx (by simp only at hj; omega)) hc
     · (try simp only [De, Dd, Dc, Db, Da, C9, C8, C7]); simp (disch := omega) only [go_sem]
     · simp (disch := omega) only [go_sem]
   · have e2 : (Ij v.id i < 0) = False := by rw [Tu]; exact eq_false hc
     simp (disch := omega) only [e2, go_sem];refine Ad (x := (a, b)) (a, m) _ _ rfl ⟨by show a ≤ m; omega, by show m ≤ _; omega, p3, fun j x hj hx' => ?_⟩ (by show m - a < b - a; omega) ?_ ?_
     · by_cases e : j = m
       · subst e; rw [hx] at hx'; cases hx'; exact hc
       · exact fun q => hc (E8 (Hf hs hx hx' (by simp only at hj; omega)) q)
     · (try simp only [De, Dd, Dc, Db, Da, C9, C8, C7]); simp (disch := omega) only [go_sem]
     · simp (disch := omega) only [go_sem]
 · obtain rfl : a = b := by omega
   have hpos : Ca l i = a := As8 p2 p3 fun x hx' => p4 a x (Nat.le_refl a) hx';have hk := Qb hs i;rw [hpos] at hk;by_cases hal : a < l.length
   · have hx' : l[a]? = some l[a] := List.getElem?_eq_getElem hal;have he : (l.map Ax)[a]? = some (Ax l[a]) := by rw [List.getElem?_map, hx']; rfl
     rw [hx'] at hk;simp only at hk;generalize l[a] = v at *;simp (disch := omega) only [Zb, hal, he, Gp, List.length_map, go_sem];refine Aa (An5 v i) ?_;by_cases hv : v.id = i
     · have e2 : (Ij v.id i = 0) = True := by rw [Tv]; exact eq_true hv
       have e3 : isO l i = true := by rw [hk]; simp [hv]
       simp (disch := omega) only [e2, e3, hpos, go_sem]
     · have e2 : (Ij v.id i = 0) = False := by rw [Tv]; exact eq_false hv
       have e3 : isO l i = false := by rw [hk]; simp [hv]
       simp (disch := omega) only [e2, e3, hpos, go_sem]
   · rw [List.getElem?_eq_none (by omega)] at hk;simp (disch := omega) only [Zb, hal, hpos, hk, go_sem]
theorem L7 {x : SV} {f : Bool} {l : List Obj} (i : Bi) {h d} (hx : Co h [x, .vec 2 [.i .i64 i.1, .i .u32 i.2]] = [.pv (.sl f 15 (l.map Ax)), .vec 2 [.i .i64 i.1, .i .u32 i.2]]) (hl : Bc [x, .vec 2 [.i .i64 i.1, .i .u32 i.2]] = true) (hs : Ef l) (hn : l.length ≤ 1000) :
 FunOk Tryz.prog 40 [x, .vec 2 [.i .i64 i.1, .i .u32 i.2]] h d (.tup [.pv (.i .i64 (Ca l i)), .pv (.b (isO l i))]) [] := by
 refine Cn Ae fn40 (by simp) hl rfl fun F => ?_;rw [hx];simp (disch := omega) only [ir40, go_sem];refine Aa (Ayt (l := l) i rfl rfl hs hn) ?_;simp (disch := omega) only [go_sem]
def Jh (l : List Obj) (i : Bi) : Int := if i = (0, 0) then 0 else match l[Ca l i]? with
 | some o => if o.id = i then (if o.dir = true then 0 else 22) else 2
 | none => 2
theorem Az6 {l : List Obj} (hs : Ef l) {i : Bi} (h : i ≠ (0, 0)) (k : isO l i = false) : Jh l i = 2 := by
 unfold Jh; rw [if_neg h];rw [Qb hs] at k;cases hx : l[Ca l i]? with
 | none => rfl
 | some x => rw [hx] at k; simp only at k ⊢; rw [if_neg (by simpa using k)]
theorem Az5 {l : List Obj} {i : Bi} {o : Obj} (h : i ≠ (0, 0)) (k : l[Ca l i]? = some o) (ho : o.id = i) : Jh l i = if o.dir = true then 0 else 22 := by
 unfold Jh; rw [if_neg h, k]; simp only; rw [if_pos ho]
theorem Aa0 {i : Bi} (h : i = (0, 0)) : i.1 = 0 ∧ i.2 = 0 := by subst h; exact ⟨rfl, rfl⟩
theorem Anr {s : St} (i : Bi) {h d} (hs : Ef s.objs) (hn : s.objs.length ≤ 1000) : FunOk Tryz.prog 75 [.agg (Bd s), .vec 2 [.i .i64 i.1, .i .u32 i.2]] h d (.pv (.i .i64 (Jh s.objs i))) [] := by
 refine Au Ae fn75 (by simp) rfl rfl fun F => ?_;by_cases h0 : i = (0, 0)
 · have e : Jh s.objs i = 0 := if_pos h0;have hz : Bx i.1 i.2 = true := decide_eq_true (Aa0 h0);simp (disch := omega) only [ir75, Bd, A7, Ai, Ap, Ao, hz, e, go_sem]
 · have hz : Bx i.1 i.2 = false := decide_eq_false fun e => h0 (Prod.ext e.1 e.2);simp (disch := omega) only [ir75, Bd, A7, Ai, Ap, Ao, hz, go_sem];refine Aa (L7 (l := s.objs) i rfl rfl hs hn) ?_;by_cases hi : isO s.objs i = true
   · obtain ⟨o, h1, h2⟩ := Azj hs hi;have e := Az5 h0 h1 h2;have hlt := (List.getElem?_eq_some_iff.1 h1).1;have he : (s.objs.map Ax)[Ca s.objs i]? = some (Ax o) := by rw [List.getElem?_map, h1]; rfl
     by_cases hd : o.dir = true
     · rw [if_pos hd] at e;simp (disch := omega) only [hi, List.length_map, he, Dt, hd, e, go_sem]
     · rw [if_neg hd] at e;have hd' : o.dir = false := by simpa using hd
       simp (disch := omega) only [hi, List.length_map, he, Dt, hd', e, go_sem]
   · have hi' : isO s.objs i = false := by simpa using hi
     have e := Az6 hs h0 hi';simp (disch := omega) only [hi', e, go_sem]
theorem Apr {P : Program} (hm : P.follows .mixedOrders = true) {f N' : Nat} {rs : List Rv} {c : C} (hf : A9 P f = some (N', rs, c)) {args : List SV} {h : Nat → Option Blk} {d : Nat} {sz : Nat} {es : List (List PV)} {X : Nat → SV} (hlen : args.length ≤ N')
 (hargs : SV.closedL args = true) (hX : ∀ (V V' : View) (ρ ρ' : Nat → Value) (n d : Nat) (v : Value), View.le V V' → ρ' d = ρ n → Conc V ρ (X n) v → Conc V' ρ' (X d) v)
 (hrun : ∀ F, sx (Wx P F N') c (Pk rs fun y g => ∃ n, y = X n ∧ g n = some (.row sz es)) (mk (Dv 0 args) [])) :
 FunOk P f args h d (X d) [.new d (.row sz es)] := by
 obtain ⟨h1, h2, h3⟩ := Cs hargs;refine ⟨C0 hf, fun F N ρ s a w hR hh vs hc => ?_⟩;refine Calls.mono (Ei hm hf (h := h) hlen h2 J9 (by rw [h3]; exact hrun) hR hh hc) fun e w' he => ?_;obtain ⟨v, rfl, hg, N'', ρ', s', a', y, hR', hy, n, rfl, hn⟩ := he;rw [h1, Eu] at hR' hy;obtain ⟨base, cap, g1, g2, g3, g4, g5⟩ := hR'.own n _ hn;have hown : ∀ b, Ch (ρ' n) = some b → w.heap.size ≤ b ∧ b < w'.heap.size := fun b hb => by
  have ho : Cd ρ' s'.h b := ⟨n, _, hn, hb⟩
  exact ⟨(hR'.may b ho).resolve_right id, hR'.lt ho⟩
 have hnew := hR.adopt hg d (.row sz es) (ρ' n) hown fun _ => by
  refine ⟨base, cap, by rw [A0]; exact g1, g2, g3, g4, fun hcap => ?_⟩;obtain ⟨b, vs', ty, fr, k1, k2, k3, k4, k5, k6⟩ := g5 hcap;refine ⟨b, vs', ty, fr, k1, k2, k3, k4, k5, fun i c hi => (k6 i c hi).mono (Bk fun b' c' ho hc' => ⟨fun hb' => ?_, hc'⟩)⟩;rcases hb' with ⟨m, z, hm1, hm2⟩ | hb'
  · by_cases hmd : m = d
    · subst hmd;rw [A0] at hm2;exact ho (.inl ⟨n, _, hn, hm2⟩)
    · rw [Bq hmd] at hm2;simp only [FS.hup, FS.seth, FS.kill, hmd, if_false] at hm1;obtain ⟨z', hz', _⟩ := Option.map_eq_some_iff.1 hm1;exact ho (.inr (.inl ⟨m, z', hz', hm2⟩))
  · exact ho (.inr (.inr hb'))
 refine ⟨v, _, rfl, hnew.1, hX _ _ _ _ _ _ _ (Bk fun b' c' ho hc' => ⟨fun hb' => ?_, hc'⟩) A0 hy⟩;rcases hb' with ⟨m, z, hm1, hm2⟩ | hb'
 · by_cases hmd : m = d
   · subst hmd;rw [A0] at hm2;exact ho (.inl ⟨n, _, hn, hm2⟩)
   · rw [Bq hmd] at hm2;simp only [FS.hup, FS.seth, FS.kill, hmd, if_false] at hm1;obtain ⟨z', hz', _⟩ := Option.map_eq_some_iff.1 hm1;exact ho (.inr (.inl ⟨m, z', hz', hm2⟩))
 · exact ho (.inr (.inr hb'))
theorem Ajd {f : Bool} {z : Nat} {es : List (List PV)} {h d} (hz : es = [] ∨ z = 15) (hb : es.length ≤ 1000) : FunOk Tryz.prog 42 [.pv (.sl f z es)] h d (.pv (.sl false 15 es)) [] := by
 refine Vs Ae fn42 (by simp) rfl fun F => ?_;simp (disch := omega) only [ir42, go_sem];intro b hb';cases b
 · simp (disch := omega) only [go_sem]
 · have he : es = [] := by
    cases es with
    | nil => rfl
    | cons c l => exact absurd (hb' (by simp)) (by simp)
   subst he
   (try simp only [De, Dd, Dc, Db, Da, C9, C8, C7]); simp (disch := omega) only [go_sem]
   decide
theorem Xk {f : Bool} {z : Nat} {es : List (List PV)} {h d} (hz : es = [] ∨ z = 11) (hb : es.length ≤ 1000) : FunOk Tryz.prog 41 [.pv (.sl f z es)] h d (.pv (.sl false 11 es)) [] := by
 refine Vs Ae fn41 (by simp) rfl fun F => ?_;simp (disch := omega) only [ir41, go_sem];intro b hb';cases b
 · simp (disch := omega) only [go_sem]
 · have he : es = [] := by
    cases es with
    | nil => rfl
    | cons c l => exact absurd (hb' (by simp)) (by simp)
   subst he
   (try simp only [De, Dd, Dc, Db, Da, C9, C8, C7]); simp (disch := omega) only [go_sem]
   decide
theorem Ac9 {V V' : View} {ρ ρ' : Nat → Value} {n d : Nat} {a b : List SV} {v : Value} (hV : V.le V') (he : ρ' d = ρ n) (ha : SV.closedL a = true) (hb : SV.closedL b = true) (h : Conc V ρ (.agg (a ++ .os n :: b)) v) : Conc V' ρ' (.agg (a ++ .os d :: b)) v := by
 simp only [Conc] at h ⊢;obtain ⟨vs, rfl, hc⟩ := h;obtain ⟨va, vb, rfl, h1, h2⟩ := M4 hc;simp only [Cells] at h2;obtain ⟨u, ub, rfl, h3, h4, h5, h6⟩ := h2;refine ⟨_, rfl, Pd (F1 hV ha h1) ?_⟩;simp only [Cells];refine ⟨u, ub, rfl, ?_, h4, h5, F1 hV hb h6⟩;simp only [Conc] at h3 ⊢;rw [he]; exact h3
def cpS (k : Nat) : SV := if k = 0 then .pv (.sl true 0 []) else .os 40
def cpK (l : List Obj) (k : Nat) : Option Blk := if k = 0 then none else some (.row 15 ((l.take k).map Ax))
theorem Aqk : cpS 0 = .pv (.sl true 0 []) := rfl
theorem Ahx {k : Nat} (h : k ≠ 0) : cpS k = .os 40 := if_neg h
theorem Aql (l : List Obj) : cpK l 0 = none := rfl
theorem Ahy {l : List Obj} {k : Nat} (h : k ≠ 0) : cpK l k = some (.row 15 ((l.take k).map Ax)) := if_neg h
def D5 : SV := .agg [.vec 8 (List.replicate 8 (.i .u32 0)), .pv (.sl true 0 []), .pv (.sl true 0 []), .vec 8 (List.replicate 8 (.i .i64 0)), .vec 8 (List.replicate 8 (.b false))]
def Fb (s : St) : SV := .pv (.sl false 15 (s.ents.map Bh))
def Asr (s : St) (k : Nat) : FS := mk [(15, .pv (.i .i64 k)), (14, .pv (.i .i64 s.objs.length)), (13, .pv (.sl false 15 (s.objs.map Ax))), (3, .p 3 0), (2, .p 2 0)] [(3, some (.var (.agg (A7 s (cpS k) (Fb s))))), (2, some (.var D5)), (40, cpK s.objs k)]
theorem Dg {α : Type} {l : List α} {k : Nat} {y : α} (h : l[k]? = some y) : l.take (k + 1) = l.take k ++ [y] := by
 rw [List.take_add_one, h]; rfl
theorem Xl (l : List Obj) : ∀ c ∈ l.map Ax, c.length = 15 := fun c hc => by
 obtain ⟨o, _, rfl⟩ := List.mem_map.1 hc;exact D8 o
set_option maxHeartbeats 4000000 in
theorem Yd {s : St} (hn : s.objs.length ≤ 1000) (hv : ∀ o ∈ s.objs, o.vers.length ≤ 1000) (he : s.ents.length ≤ 1000) {F : Fr} {R : SV → (Nat → Option Blk) → Prop}
 (h1 : s.objs = [] → ∀ h, R (.agg (A7 s (.pv (.sl true 0 [])) (Fb s))) h) (h2 : s.objs ≠ [] → ∀ h, h 40 = some (.row 15 (s.objs.map Ax)) → R (.agg (A7 s (.os 40) (Fb s))) h) :
 sx (Wx Tryz.prog F 31) ir17 (Pk [.c 2 26 true] R) (mk (Dv 0 [.agg (Bd s)]) []) := by
 simp (disch := omega) only [ir17, Bd, A7, go_sem];refine Aa (Ajd (es := s.ents.map Bh) (.inr rfl) (by simpa using he)) ?_;simp (disch := omega) only [List.length_map, go_sem];refine A1 Ae (Asr s) (fun k => k ≤ s.objs.length) (fun k => s.objs.length - k) 0 (by simp) (Am ?_ ?_) fun k hk => ?_
 · simp (disch := omega) only [go_sem]
 · simp (disch := omega) only [Aqk, Aql, A7, Fb, D5, go_sem]
 by_cases hlt : k < s.objs.length
 · have hx : s.objs[k]? = some s.objs[k] := List.getElem?_eq_getElem hlt;have hel : (s.objs.map Ax)[k]? = some (Ax s.objs[k]) := by rw [List.getElem?_map, hx]; rfl
   have ht := Dg hx;have hvk := hv _ (List.getElem_mem hlt);generalize s.objs[k] = o at *;have hsp : splice (Ax o) 14 [.sl false 11 (o.vers.map A4)] = Ax o := Uo o false 11 o.vers;have hol := D8 o;have htm : (s.objs.take (k + 1)).map Ax = (s.objs.take k).map Ax ++ [Ax o] := by rw [ht]; simp
   have hkl : ((s.objs.take k).map Ax).length = k := by simp; omega
   simp (disch := omega) only [Asr, A7, List.length_map, hel, Gp, go_sem];simp (disch := omega) only [D3, go_sem];refine Aa (Xk (es := o.vers.map A4) (.inr rfl) (by simpa using hvk)) ?_;by_cases h0 : k = 0
   · subst h0;simp (disch := omega) only [hsp, Aqk, Aql, Gp, hol, A7, Fb, D5, go_sem];have hS := Ahx (k := 1) (by omega);have hK := Ahy (l := s.objs) (k := 1) (by omega);refine ⟨fun _ => trivial, (1 : Nat), by omega, by show _ - 1 < _ - 0; omega, Ew 27 40 (by decide) rfl (Am ?_ ?_)⟩
     · simp (disch := omega) only [go_sem]
     · simp (disch := omega) only [hS, hK, htm, A7, Fb, D5, go_sem];rfl
   · have hS := Ahx h0;have hK := Ahy (l := s.objs) h0;simp (disch := omega) only [hsp, hS, hK, Gp, hol, A7, Fb, D5, hkl, go_sem];have hS' := Ahx (k := k + 1) (by omega);have hK' := Ahy (l := s.objs) (k := k + 1) (by omega);refine ⟨k + 1, by omega, by omega, Ew 27 40 (by decide) rfl (Am ?_ ?_)⟩
     · simp (disch := omega) only [go_sem]
     · simp (disch := omega) only [hS', hK', htm, A7, Fb, D5, go_sem]
 · obtain rfl : k = s.objs.length := by omega
   by_cases h0 : s.objs = []
   · have := h1 h0;have e : s.objs.length = 0 := by rw [h0]; rfl
     simp (disch := omega) only [Asr, A7, e, Aqk, Aql, Fb, D5, go_sem];exact this _
   · have e : s.objs.length ≠ 0 := fun e => h0 (List.eq_nil_of_length_eq_zero e);have hS := Ahx e;have hK := Ahy (l := s.objs) e;simp (disch := omega) only [Asr, A7, hS, hK, Fb, D5, go_sem];exact h2 h0 _ (by simp [mk, lk])
structure Fine (s : St) : Prop where
 on : s.objs.length ≤ 500
 ov : ∀ o ∈ s.objs, o.vers.length ≤ 500
 en : s.ents.length ≤ 500
theorem An1 {s : St} (hs : Fine s) {h d} : FunOk Tryz.prog 17 [.agg (Bd s)] h d (.agg (A7 s (.os d) (Fb s))) [.new d (.row 15 (s.objs.map Ax))] := by
 have a1 : s.objs.length ≤ 1000 := Nat.le_trans hs.on (by omega);have a2 : ∀ o ∈ s.objs, o.vers.length ≤ 1000 := fun o ho => Nat.le_trans (hs.ov o ho) (by omega);have a3 : s.ents.length ≤ 1000 := Nat.le_trans hs.en (by omega);by_cases h0 : s.objs = []
 · rw [h0];refine FunOk.nilos (a := [.vec 8 (vE s.known)]) (b := [Fb s, .vec 8 (iE s.wards), .vec 8 (wE s.ret)]) (z := 0) (sz := 15) ?_ rfl rfl (by omega);refine Au Ae fn17 (by simp) rfl rfl fun F => ?_;exact Yd a1 a2 a3 (fun _ _ => rfl) fun e => absurd h0 e
 · refine Apr (X := fun n => .agg (A7 s (.os n) (Fb s))) Ae fn17 (by simp) rfl (fun V V' ρ ρ' n d v hV he hc => Ac9 (a := [.vec 8 (vE s.known)]) (b := [Fb s, .vec 8 (iE s.wards), .vec 8 (wE s.ret)]) hV he rfl rfl hc) fun F => ?_;exact Yd a1 a2 a3 (fun e => absurd e h0) fun _ h hh => ⟨40, rfl, hh⟩
def Ah6 : List SV → List PV → Prop
 | [], cs => cs = []
 | .pv x :: l, cs => ∃ r, cs = x :: r ∧ Ah6 l r
 | .vec n c :: l, cs => c.length = n ∧ ∃ r, cs = c ++ r ∧ Ah6 l r
 | _ :: _, _ => False
theorem R2 {V : View} {ρ : Nat → Value} : ∀ {l : List SV} {cs : List PV} {vs : List Value}, Ah6 l cs → PCells V cs vs → Cells V ρ l vs
 | [], cs, vs, h, hp => by
   have h : cs = [] := h;subst h;simp only [Cells];exact List.eq_nil_of_length_eq_zero hp.1.symm
 | .pv x :: l, cs, vs, h, hp => by
   obtain ⟨r, rfl, h⟩ := h;simp only [Cells];obtain ⟨v, hv, hx⟩ := hp.2 0 x rfl;cases vs with
   | nil => cases hv
   | cons u us =>
     have : u = v := by simpa using hv
     subst this;have hf : Av u = [u] := by have := hx.one; cases u <;> simp_all [Av, A5]
     refine ⟨u, us, by rw [hf]; rfl, by simp only [Conc]; exact hx, by rw [hf]; rfl, fun c hc => ?_, R2 h ⟨by simpa using hp.1, fun j y hy => by simpa using hp.2 (j + 1) y (by simpa using hy)⟩⟩;rw [hf] at hc;rw [List.mem_singleton.1 hc];exact hx.one
 | .vec n c :: l, cs, vs, h, hp => by
   obtain ⟨hn, r, rfl, h⟩ := h;simp only [Cells];have hl : c.length + r.length = vs.length := by simpa using hp.1
   have hA : PCells V c (vs.take n) := ⟨by simp; omega, fun j y hy => by
    have hj := (List.getElem?_eq_some_iff.1 hy).1;obtain ⟨v, h1, h2⟩ := hp.2 j y (by rw [List.getElem?_append_left hj]; exact hy);exact ⟨v, by rw [List.getElem?_take_of_lt (by omega)]; exact h1, h2⟩⟩
   refine ⟨.agg ⟨vs.take n⟩, vs.drop n, (List.take_append_drop n vs).symm, by simp only [Conc]; exact ⟨_, rfl, by simp; omega, hA⟩, by simp [Av, SV.width]; omega, fun x hx => hA.one x hx, R2 h ⟨by simp; omega, fun j y hy => by
    obtain ⟨v, h1, h2⟩ := hp.2 (n + j) y (by rw [List.getElem?_append_right (by omega)]; simpa [hn] using hy);exact ⟨v, by rw [List.getElem?_drop]; exact h1, h2⟩⟩⟩
 | .agg _ :: _, _, _, h, _ => h.elim
 | .tup _ :: _, _, _, h, _ => h.elim
 | .p _ _ :: _, _, _, h, _ => h.elim
 | .ps _ _ :: _, _, _, h, _ => h.elim
 | .pr _ _ _ _ :: _, _, _, h, _ => h.elim
 | .pi _ _ _ _ :: _, _, _, h, _ => h.elim
 | .os _ :: _, _, _, h, _ => h.elim
 | .ov _ _ _ _ :: _, _, _, h, _ => h.elim
 | .fn _ _ :: _, _, _, h, _ => h.elim
 | .dead :: _, _, _, h, _ => h.elim
theorem Aul {l : List SV} {cs : List PV} {n : Nat} (h : Ah6 l cs) : Imp (.vec n cs) (.agg l) := by
 intro V ρ v hv;simp only [Conc] at hv ⊢;obtain ⟨vs, rfl, _, hp⟩ := hv;exact ⟨vs, rfl, R2 h hp⟩
def Agm (a b : Vc) (k : Nat) : FS := mk [(8, .pv (.i .i64 k)), (7, .vec 8 (vE a)), (4, .pv (.b false)), (3, .p 3 0)] [(3, some (.var (.vec 8 (vE b))))]
theorem A2p (a b : Vc) {h d} : FunOk Tryz.prog 35 [.vec 8 (vE a), .vec 8 (vE b)] h d (.pv (.b (decide (Ua a b)))) [] := by
 refine Au Ae fn35 (by simp) rfl rfl fun F => ?_;simp (disch := omega) only [ir35, go_sem];refine A1 Ae (Agm a b) (fun k => k ≤ 8 ∧ ∀ i, i < k → a i ≤ b i) (fun k => 8 - k) 0 (by simp) (Am ?_ ?_) fun k hk => ?_
 · simp (disch := omega) only [go_sem]
 · simp (disch := omega) only [go_sem]
 obtain ⟨hk, hle⟩ := hk;by_cases hlt : k < 8
 · by_cases hc : a k ≤ b k
   · simp (disch := omega) only [Agm, go_sem];refine Ad (k + 1) _ _ rfl ⟨by omega, fun i hi => ?_⟩ (by omega) ?_ ?_
     · by_cases e : i = k
       · subst e; exact hc
       · exact hle i (by omega)
     · simp (disch := omega) only [go_sem]
     · simp (disch := omega) only [go_sem]
   · have hn : ¬ Ua a b := fun h => hc (h k hlt);simp (disch := omega) only [Agm, hn, go_sem]
 · have hn : Ua a b := fun i hi => hle i (by omega);simp (disch := omega) only [Agm, hn, go_sem]
theorem Tb (g : SlI) (h : g.ok) : Imp (.pv g.pv) (.pv (.sl g.f 2 (g.l.map Ek))) := Aaa (Ju id (h.imp (fun e => by rw [e]; rfl) id) (.refl _))
def Q2 (r : Int) (q : Nat) (s : List UInt8) : Ver := ⟨r, q, s, fun _ => 0⟩
theorem Age (r : Int) (q : Nat) (s : List UInt8) : Imp (.agg [.vec 2 [.i .i64 r, .i .u32 q], .pv (.s s), .vec 8 (vE fun _ => 0)]) (.vec 11 (A4 (Q2 r q s))) := Fz (by rfl) (G1 _)
theorem Ato {l : List Ver} {g : SlI} {r : Int} {q : Nat} {s : List UInt8} {h d} (hg : g.ok) (hs : Ci l) (hn : l.length ≤ 900) (hbn : g.l.length ≤ 900) (hm : ¬ Cx l g.l) (ho : Bm l r q = none) :
 FunOk Tryz.prog 80 [.pv (.sl false 11 (l.map A4)), .pv g.pv, .agg [.vec 2 [.i .i64 r, .i .u32 q], .pv (.s s), .vec 8 (vE fun _ => 0)]] h d (.tup [.pv (.sl false 11 ((Fg l g.l (Q2 r q s)).map A4)), .pv (.i .i64 0)]) [] := by
 refine FunOk.imp (args' := [.pv (.sl false 11 (l.map A4)), .pv (.sl g.f 2 (g.l.map Ek)), .vec 11 (A4 (Q2 r q s))]) ?_ ⟨Imp.refl _, Tb g hg, Age r q s, trivial⟩ (by simp [A8, tn]);refine Aki Ae fn80 (by simp) rfl rfl fun F => ?_;exact Ah3 hs hn hbn (fun h => absurd h hm) (fun _ h => by
  have ho' : Bm l (Q2 r q s).rep (Q2 r q s).seq = none := ho;rw [ho'] at h; cases h) (fun _ _ g n hg => .inl ⟨n, rfl, hg⟩)
theorem Ab8 {l : List Ver} {g : SlI} {r : Int} {q : Nat} {s : List UInt8} {h d} (hg : g.ok) (hs : Ci l) (hn : l.length ≤ 900) (hbn : g.l.length ≤ 900) (hm : Cx l g.l) :
 FunOk Tryz.prog 80 [.pv (.sl false 11 (l.map A4)), .pv g.pv, .agg [.vec 2 [.i .i64 r, .i .u32 q], .pv (.s s), .vec 8 (vE fun _ => 0)]] h d (.tup [.pv (.sl true 0 []), .pv (.i .i64 2)]) [] := by
 refine FunOk.imp (args' := [.pv (.sl false 11 (l.map A4)), .pv (.sl g.f 2 (g.l.map Ek)), .vec 11 (A4 (Q2 r q s))]) ?_ ⟨Imp.refl _, Tb g hg, Age r q s, trivial⟩ (by simp [A8, tn]);exact Aex rfl rfl hs hn hbn hm
def Ej (e : Evt) : Bi := match e.base.l with
 | [] => (0, 0)
 | b :: _ => b
def Fc (l : List Ver) (e : Evt) : List UInt8 :=
 if e.kind = 5 then e.data
 else if e.kind = 4 then N6 (Dp l (Ej e).1 (Ej e).2).1 e.off.toNat
 else Ie (Dp l (Ej e).1 (Ej e).2).1 e.off.toNat e.data
structure FitsW (l : List Ver) (e : Evt) : Prop where
 k : e.kind = 3 ∨ e.kind = 4 ∨ e.kind = 5
 off : e.kind ≠ 5 → 0 ≤ e.off ∧ e.off ≤ 200
 len : e.kind = 3 → e.off + e.data.length ≤ 200
 data : ∀ v ∈ l, v.data.length ≤ 200
theorem X8 {l : List Ver} (h : ∀ v ∈ l, v.data.length ≤ 200) (r : Int) (q : Nat) : (Dp l r q).1.length ≤ 200 := by
 unfold Dp;split
 · simp
 · split
   · rename_i v hv; exact h v (X5 hv).1
   · simp
theorem X9 (l : List Ver) (r : Int) (q : Nat) : (Dp l r q).2 = 0 ∨ (Dp l r q).2 = 2 := by
 unfold Dp;split
 · exact .inl rfl
 · split
   · exact .inl rfl
   · exact .inr rfl
set_option maxHeartbeats 2000000 in
theorem Ag8 {l : List Ver} {e : Evt} (he : ev e) (hf : FitsW l e) (hs : Ci l) (hn : l.length ≤ 900) {h d} :
 FunOk Tryz.prog 79 [.pv (.sl false 11 (l.map A4)), .vec 21 (Bo e)] h d (if e.kind = 5 ∨ (Dp l (Ej e).1 (Ej e).2).2 = 0 then .tup [.pv (.s (Fc l e)), .pv (.i .i64 0)] else .tup [.pv (.s []), .pv (.i .i64 2)]) [] := by
 refine Au Ae fn79 (by simp) rfl (by split <;> rfl) fun F => ?_;by_cases h5 : e.kind = 5
 · rw [if_pos (.inl h5)];have hb : Fc l e = e.data := if_pos h5;simp (disch := omega) only [ir79, Af, h5, G2, hb, go_sem]
 · have hz : (if e.kind = 5 ∨ (Dp l (Ej e).1 (Ej e).2).2 = 0 then (SV.tup [.pv (.s (Fc l e)), .pv (.i .i64 0)]) else .tup [.pv (.s []), .pv (.i .i64 2)]) = if (Dp l (Ej e).1 (Ej e).2).2 = 0 then (SV.tup [.pv (.s (Fc l e)), .pv (.i .i64 0)]) else .tup [.pv (.s []), .pv (.i .i64 2)] := by
    by_cases hd : (Dp l (Ej e).1 (Ej e).2).2 = 0
    · rw [if_pos (.inr hd), if_pos hd]
    · rw [if_neg (fun q => q.elim h5 hd), if_neg hd]
   rw [hz];have hoff := hf.off h5;have hdl := X8 hf.data (Ej e).1 (Ej e).2;have hpv : e.base.pv = .sl e.base.f e.base.z (e.base.l.map Ek) := rfl;cases hbl : e.base.l with
   | nil =>
     obtain ⟨b, hb⟩ : ∃ b : Bi, b = (0, 0) := ⟨_, rfl⟩
     have hbi : Ej e = b := by unfold Ej; rw [hbl, hb]
     simp (disch := omega) only [ir79, Af, h5, Gj, hpv, hbl, List.map_nil, go_sem];rw [hbi] at hdl ⊢;have hde := X9 l b.1 b.2;have hbv : Fc l e = if e.kind = 4 then N6 (Dp l b.1 b.2).1 e.off.toNat else Ie (Dp l b.1 b.2).1 e.off.toNat e.data := by unfold Fc; rw [if_neg h5, hbi]
     refine Aa (FunOk.imp (Anz (l := l) b.1 b.2 rfl rfl hs (by omega)) ⟨Imp.refl _, by subst hb; exact Fz (by rfl) rfl, trivial⟩ (by simp [A8, tn])) ?_;generalize Dp l b.1 b.2 = w at *;by_cases hw : w.2 = 0
     · rw [if_pos hw];by_cases h4 : e.kind = 4
       · rw [if_pos h4] at hbv;have hc := Ky (data := w.1) (n := e.off) (by omega);simp (disch := omega) only [hw, Af, h4, It, go_sem];refine Aa (Awk w.1 e.off (by omega)) ?_;simp (disch := omega) only [hc, hbv, go_sem]
       · rw [if_neg h4] at hbv;have h3 : e.kind = 3 := by have := hf.k; omega
         have hl := hf.len h3;have hc := Iy (data := w.1) (off := e.off) (s := e.data) (by unfold Dx; omega);simp (disch := omega) only [hw, Af, h4, It, G2, go_sem];refine Aa (Ag3 w.1 e.data e.off) ?_;simp (disch := omega) only [hc, hbv, go_sem]
     · rw [if_neg hw];have hw2 := hde.resolve_left hw;simp (disch := omega) only [hw2, go_sem]
   | cons b t =>
     have hbi : Ej e = b := by unfold Ej; rw [hbl]
     have hok : e.base.z = 2 := he.2.1.resolve_left (by rw [hbl]; simp);have h0 : (List.map Ek (b :: t))[0]? = some (Ek b) := rfl;have hpos : (0 : Int) < ((t.length : Int) + 1) := by omega
     simp (disch := omega) only [ir79, Af, h5, Gj, hpv, hbl, hok, List.length_map, h0, Ez, go_sem];rw [hbi] at hdl ⊢;have hde := X9 l b.1 b.2;have hbv : Fc l e = if e.kind = 4 then N6 (Dp l b.1 b.2).1 e.off.toNat else Ie (Dp l b.1 b.2).1 e.off.toNat e.data := by unfold Fc; rw [if_neg h5, hbi]
     refine Aa (FunOk.imp (Anz (l := l) b.1 b.2 rfl rfl hs (by omega)) ⟨Imp.refl _, Imp.refl _, trivial⟩ (by simp [A8, tn])) ?_;generalize Dp l b.1 b.2 = w at *;by_cases hw : w.2 = 0
     · rw [if_pos hw];by_cases h4 : e.kind = 4
       · rw [if_pos h4] at hbv;have hc := Ky (data := w.1) (n := e.off) (by omega);simp (disch := omega) only [hw, Af, h4, It, go_sem];refine Aa (Awk w.1 e.off (by omega)) ?_;simp (disch := omega) only [hc, hbv, go_sem]
       · rw [if_neg h4] at hbv;have h3 : e.kind = 3 := by have := hf.k; omega
         have hl := hf.len h3;have hc := Iy (data := w.1) (off := e.off) (s := e.data) (by unfold Dx; omega);simp (disch := omega) only [hw, Af, h4, It, G2, go_sem];refine Aa (Ag3 w.1 e.data e.off) ?_;simp (disch := omega) only [hc, hbv, go_sem]
     · rw [if_neg hw];have hw2 := hde.resolve_left hw;simp (disch := omega) only [hw2, go_sem]
abbrev Aj (e : Evt) : Bi := (e.rep, e.seq)
abbrev Aw (e : Evt) : Bi := (e.orep, e.oseq)
abbrev G6 (e : Evt) : Bi := (e.drep, e.dseq)
theorem Xw {l : List Obj} (hs : Ef l) {i : Bi} {o : Obj} (h : l[Ca l i]? = some o) (ho : o.id = i) : isO l i = true := by
 rw [Qb hs, h]; simp [ho]
theorem Aqh {l : List Ver} {e : Evt} (h : ¬ Cx l e.base.l) : (Dp l (Ej e).1 (Ej e).2).2 = 0 := by
 have key : ∀ b : Bi, (b = (0, 0) ∨ b ∈ e.base.l) → (Dp l b.1 b.2).2 = 0 := fun b hb => by
  by_cases hz : b.1 = 0 ∧ b.2 = 0
  · rw [Qp hz]
  · cases hv : Bm l b.1 b.2 with
    | some v => rw [Lv hz hv]
    | none =>
      rcases hb with rfl | hb
      · exact absurd ⟨rfl, rfl⟩ hz
      · exact absurd ⟨b, hb, hv⟩ h
 refine key _ ?_;unfold Ej;cases e.base.l with
 | nil => exact .inl rfl
 | cons b t => exact .inr List.mem_cons_self
structure StOk (s : St) : Prop where
 fine : Fine s
 so : Ef s.objs
 se : Dl s.ents
structure VerOk (o : Obj) (e : Evt) : Prop where
 sv : Ci o.vers
 fw : FitsW o.vers e
 new : Bm o.vers e.rep e.seq = none
 bl : e.base.l.length ≤ 900
theorem Br {rs : List Rv} {R : SV → FS → Prop} {s : FS} (h : Ld s rs fun l => R (one l) s) : Wt rs R s := ⟨s, .same s, h⟩
theorem Qi {l : List Obj} {k : Nat} {o : Obj} (h : l[k]? = some o) : (l.map Ax).getD k [] = Ax o := by
 rw [List.getD_eq_getElem?_getD, List.getElem?_map, h]; rfl
def wrO (s : St) (e : Evt) (o : Obj) : List Obj := s.objs.set (Ca s.objs (Aw e)) { o with vers := Fg o.vers e.base.l (Q2 e.rep e.seq (Fc o.vers e)) }
def Iw (s : St) : SV := .agg (A7 s (.os 38) (Fb s))
theorem Dr (s : St) : ∀ n ∈ tn (Iw s), n = 6 ∨ n = 38 := fun n hn => by
 simp [Iw, A7, Fb, tn, A8] at hn; exact .inr hn
set_option maxHeartbeats 4000000 in
theorem A2t {s : St} {e : Evt} {o : Obj} (hs : StOk s) (he : ev e) (ho : s.objs[Ca s.objs (Aw e)]? = some o) (hid : o.id = Aw e) (hd : o.dir = false) (hv : VerOk o e) (hm : ¬ Cx o.vers e.base.l) {h d}
 (hg : h 6 = some (.var (Iw s))) (h38 : h 38 = some (.row 15 (s.objs.map Ax))) :
 DeepOk Tryz.prog 37 [.p 6 0, .vec 21 (Bo e)] h d (.pv (.i .i64 0)) [.new 38 (.row 15 ((wrO s e o).map Ax)), .upd 6 (.var (Iw s))] := by
 refine Ep Ae fn37 (by simp) hg h38 (by decide) rfl (Dr s) fun F => ?_;have hk := hv.fw.k;have n8 : ¬ e.kind = 8 := by omega
 have n9 : ¬ e.kind = 9 := by omega
 have n1 : ¬ e.kind = 1 := by omega
 have n2 : ¬ e.kind = 2 := by omega
 have n6 : ¬ e.kind = 6 := by omega
 have n7 : ¬ e.kind = 7 := by omega
 have hi := Xw hs.so ho hid;have hlt := (List.getElem?_eq_some_iff.1 ho).1;have hel : (s.objs.map Ax)[Ca s.objs (Aw e)]? = some (Ax o) := by rw [List.getElem?_map, ho]; rfl
 have hgd := Qi ho;have a1 := hs.fine.on;have a2 := hs.fine.ov o (List.mem_of_getElem? ho);have hb := Ag8 he hv.fw hv.sv (by omega) (h := fun _ => none) (d := 0);rw [if_pos (.inr (Aqh hm))] at hb;simp (disch := omega) only [ir37, Iw, A7, Fb, Af, n8, n9, n1, n2, Ba, go_sem];refine Aa (L7 (l := s.objs) (Aw e) rfl rfl hs.so (by omega)) ?_;simp (disch := omega) only [hi, List.length_map, n6, n7, Af, hel, Dt, hd, D3, B0, go_sem];refine Aa (hb.at (by simp [A8, tn])) ?_;simp (disch := omega) only [hel, D3, Gj, Bf, go_sem];have hpv : e.base.pv = .sl e.base.f e.base.z (e.base.l.map Ek) := rfl;have hA := Ato (g := e.base) (r := e.rep) (q := e.seq) (s := Fc o.vers e) he.2.1 hv.sv (by omega) hv.bl hm hv.new (h := fun _ => none) (d := 0);refine Aa (hA.at (by simp [A8, tn, hpv])) ?_;have hsp := Uo o false 11 (Fg o.vers e.base.l (Q2 e.rep e.seq (Fc o.vers e)));have hset : (s.objs.map Ax).set (Ca s.objs (Aw e)) (E6 false 11 { o with vers := Fg o.vers e.base.l (Q2 e.rep e.seq (Fc o.vers e)) }) = (wrO s e o).map Ax := by
  unfold wrO; rw [List.map_set]; rfl
 simp (disch := omega) only [hgd, hsp, List.length_map, hset, go_sem];refine Br ?_;simp (disch := omega) only [go_sem]
def Yp (s : St) (e : Evt) (n : Int) : Prop := ∀ (h : Nat → Option Blk) (d : Nat), h 6 = some (.var (Iw s)) → h 38 = some (.row 15 (s.objs.map Ax)) → ∃ r X, DeepOk Tryz.prog 37 [.p 6 0, .vec 21 (Bo e)] h d (.pv (.i .i64 n)) [.new 38 (.row 15 r), .upd 6 (.var X)]
set_option maxHeartbeats 4000000 in
theorem Aew {s : St} {e : Evt} {o : Obj} (hs : StOk s) (he : ev e) (ho : s.objs[Ca s.objs (Aw e)]? = some o) (hid : o.id = Aw e) (hd : o.dir = false) (hv : VerOk o e) (hm : Cx o.vers e.base.l) : Yp s e 2 := by
 intro h d hg h38;have hk := hv.fw.k;have n8 : ¬ e.kind = 8 := by omega
 have n9 : ¬ e.kind = 9 := by omega
 have n1 : ¬ e.kind = 1 := by omega
 have n2 : ¬ e.kind = 2 := by omega
 have n6 : ¬ e.kind = 6 := by omega
 have n7 : ¬ e.kind = 7 := by omega
 have hi := Xw hs.so ho hid;have hlt := (List.getElem?_eq_some_iff.1 ho).1;have hel : (s.objs.map Ax)[Ca s.objs (Aw e)]? = some (Ax o) := by rw [List.getElem?_map, ho]; rfl
 have hgd := Qi ho;have a1 := hs.fine.on;have a2 := hs.fine.ov o (List.mem_of_getElem? ho);have hb := Ag8 he hv.fw hv.sv (by omega) (h := fun _ => none) (d := 0);by_cases hq : e.kind = 5 ∨ (Dp o.vers (Ej e).1 (Ej e).2).2 = 0
 · rw [if_pos hq] at hb;refine ⟨(s.objs.map Ax).set (Ca s.objs (Aw e)) (splice (Ax o) 14 [.sl true 0 []]), Iw s, Ep Ae fn37 (by simp) hg h38 (by decide) rfl (Dr s) fun F => ?_⟩;simp (disch := omega) only [ir37, Iw, A7, Fb, Af, n8, n9, n1, n2, Ba, go_sem];refine Aa (L7 (l := s.objs) (Aw e) rfl rfl hs.so (by omega)) ?_;simp (disch := omega) only [hi, List.length_map, n6, n7, Af, hel, Dt, hd, D3, B0, go_sem];refine Aa (hb.at (by simp [A8, tn])) ?_;simp (disch := omega) only [hel, D3, Gj, Bf, go_sem];have hpv : e.base.pv = .sl e.base.f e.base.z (e.base.l.map Ek) := rfl;have hA := Ab8 (g := e.base) (r := e.rep) (q := e.seq) (s := Fc o.vers e) he.2.1 hv.sv (by omega) hv.bl hm (h := fun _ => none) (d := 0);refine Aa (hA.at (by simp [A8, tn, hpv])) ?_;simp (disch := omega) only [hgd, List.length_map, go_sem];refine Br ?_;simp (disch := omega) only [go_sem]
 · rw [if_neg hq] at hb;refine ⟨s.objs.map Ax, Iw s, Ep Ae fn37 (by simp) hg h38 (by decide) rfl (Dr s) fun F => ?_⟩;simp (disch := omega) only [ir37, Iw, A7, Fb, Af, n8, n9, n1, n2, Ba, go_sem];refine Aa (L7 (l := s.objs) (Aw e) rfl rfl hs.so (by omega)) ?_;simp (disch := omega) only [hi, List.length_map, n6, n7, Af, hel, Dt, hd, D3, B0, go_sem];refine Aa (hb.at (by simp [A8, tn])) ?_;simp (disch := omega) only [go_sem];refine Br ?_;simp (disch := omega) only [go_sem]
theorem Anu {s : St} {e : Evt} {o : Obj} (hs : StOk s) (hk : e.kind = 3 ∨ e.kind = 4 ∨ e.kind = 5) (ho : s.objs[Ca s.objs (Aw e)]? = some o) (hid : o.id = Aw e) (hd : o.dir = true) : Yp s e 23 := by
 intro h d hg h38;have n8 : ¬ e.kind = 8 := by omega
 have n9 : ¬ e.kind = 9 := by omega
 have n1 : ¬ e.kind = 1 := by omega
 have n2 : ¬ e.kind = 2 := by omega
 have n6 : ¬ e.kind = 6 := by omega
 have n7 : ¬ e.kind = 7 := by omega
 have hi := Xw hs.so ho hid;have hlt := (List.getElem?_eq_some_iff.1 ho).1;have hel : (s.objs.map Ax)[Ca s.objs (Aw e)]? = some (Ax o) := by rw [List.getElem?_map, ho]; rfl
 have a1 := hs.fine.on;refine ⟨s.objs.map Ax, Iw s, Ep Ae fn37 (by simp) hg h38 (by decide) rfl (Dr s) fun F => ?_⟩;simp (disch := omega) only [ir37, Iw, A7, Fb, Af, n8, n9, n1, n2, Ba, go_sem];refine Aa (L7 (l := s.objs) (Aw e) rfl rfl hs.so (by omega)) ?_;simp (disch := omega) only [hi, List.length_map, n6, n7, Af, hel, Dt, hd, D3, B0, go_sem];refine Br ?_;simp (disch := omega) only [go_sem]
theorem Aja {s : St} {e : Evt} (hs : StOk s) (hk : e.kind = 3 ∨ e.kind = 4 ∨ e.kind = 5 ∨ e.kind = 6 ∨ e.kind = 7) (hi : isO s.objs (Aw e) = false) : Yp s e 2 := by
 intro h d hg h38;have n8 : ¬ e.kind = 8 := by omega
 have n9 : ¬ e.kind = 9 := by omega
 have n1 : ¬ e.kind = 1 := by omega
 have n2 : ¬ e.kind = 2 := by omega
 have a1 := hs.fine.on;refine ⟨s.objs.map Ax, Iw s, Ep Ae fn37 (by simp) hg h38 (by decide) rfl (Dr s) fun F => ?_⟩;simp (disch := omega) only [ir37, Iw, A7, Fb, Af, n8, n9, n1, n2, Ba, go_sem];refine Aa (L7 (l := s.objs) (Aw e) rfl rfl hs.so (by omega)) ?_;simp (disch := omega) only [hi, go_sem];refine Br ?_;simp (disch := omega) only [go_sem]
theorem Mp {s : St} (i : Bi) {h d} (hs : Ef s.objs) (hn : s.objs.length ≤ 1000) (h38 : h 38 = some (.row 15 (s.objs.map Ax))) :
 FunOk Tryz.prog 75 [.agg [.vec 8 (vE s.known), .os 38, .pv (.sl false 15 (s.ents.map Bh)), .vec 8 (iE s.wards), .vec 8 (wE s.ret)], .vec 2 [.i .i64 i.1, .i .u32 i.2]] h d (.pv (.i .i64 (Jh s.objs i))) [] :=
 FunOk.lend (n := 38) (h' := h) (d' := d) h38 (by simp [A8, tn]) (by simp [A8, tn, SV.frz, SV.frzL]) rfl (Anr (s := s) i hs hn)
def Mr (e : Evt) : Obj := ⟨Aj e, decide (e.kind = 2), Aj e, e.name, fun _ => 0, []⟩
def E9 (e : Evt) (obj : Bi) : Ent := ⟨Aj e, G6 e, e.name, obj, fun _ => 0⟩
theorem Au7 (e : Evt) (obj : Bi) : Imp (.agg [.vec 2 [.i .i64 e.rep, .i .u32 e.seq], .vec 2 [.i .i64 e.drep, .i .u32 e.dseq], .pv (.s e.name), .vec 2 [.i .i64 obj.1, .i .u32 obj.2], .vec 8 (vE fun _ => 0)]) (.vec 15 (Bh (E9 e obj))) := Fz (by rfl) (Dk _)
theorem Zv {l : List Ent} (e : Evt) (obj : Bi) {h d} (hs : Dl l) (hn : l.length ≤ 1000) :
 FunOk Tryz.prog 77 [.pv (.sl false 15 (l.map Bh)), .agg [.vec 2 [.i .i64 e.rep, .i .u32 e.seq], .vec 2 [.i .i64 e.drep, .i .u32 e.dseq], .pv (.s e.name), .vec 2 [.i .i64 obj.1, .i .u32 obj.2], .vec 8 (vE fun _ => 0)]] h d (.os d) [.new d (.row 15 ((Qu l (E9 e obj)).map Bh))] :=
 FunOk.imp (Ayx (l := l) (E9 e obj) rfl rfl hs hn) ⟨Imp.refl _, Au7 e obj, trivial⟩ (by simp [A8, tn])
set_option maxHeartbeats 4000000 in
theorem Ajc {s : St} {e : Evt} (hs : StOk s) (hk : e.kind = 1 ∨ e.kind = 2) (hd : Jh s.objs (G6 e) ≠ 0) : Yp s e (Jh s.objs (G6 e)) := by
 intro h d hg h38;have n8 : ¬ e.kind = 8 := by omega
 have n9 : ¬ e.kind = 9 := by omega
 have a1 := hs.fine.on;refine ⟨s.objs.map Ax, Iw s, Ep Ae fn37 (by simp) hg h38 (by decide) rfl (Dr s) fun F => ?_⟩;rcases hk with hk | hk
 all_goals
  simp (disch := omega) only [ir37, Iw, A7, Fb, Af, n8, n9, hk, C4, go_sem];refine Aa (Mp (s := s) (G6 e) hs.so (by omega) rfl) ?_;simp (disch := omega) only [hd, go_sem];refine Br ?_;simp (disch := omega) only [go_sem]
def mkS (s : St) (e : Evt) : St := { s with objs := s.objs.take (Ca s.objs (Aj e)) ++ Mr e :: s.objs.drop (Ca s.objs (Aj e)), ents := Qu s.ents (E9 e (Aj e)) }
set_option maxHeartbeats 4000000 in
theorem A2u {s : St} {e : Evt} (hs : StOk s) (hk : e.kind = 1 ∨ e.kind = 2) (hd : Jh s.objs (G6 e) = 0) {h d}
 (hg : h 6 = some (.var (Iw s))) (h38 : h 38 = some (.row 15 (s.objs.map Ax))) :
 DeepOk Tryz.prog 37 [.p 6 0, .vec 21 (Bo e)] h d (.pv (.i .i64 0)) [.new 38 (.row 15 ((s.objs.map Ax).take (Ca s.objs (Aj e)) ++ E6 true 0 (Mr e) :: (s.objs.map Ax).drop (Ca s.objs (Aj e)))), .upd 6 (.var (Iw (mkS s e)))] := by
 have n8 : ¬ e.kind = 8 := by omega
 have n9 : ¬ e.kind = 9 := by omega
 have a1 := hs.fine.on;have a3 := hs.fine.en;refine Ep Ae fn37 (by simp) hg h38 (by decide) rfl (Dr _) fun F => ?_;rcases hk with hk | hk
 · skip
   simp (disch := omega) only [ir37, Iw, A7, Fb, Af, n8, n9, hk, C4, go_sem];refine Aa (Mp (s := s) (G6 e) hs.so (by omega) rfl) ?_;simp (disch := omega) only [hd, Bf, go_sem];refine Aa (L7 (l := s.objs) (Aj e) rfl rfl hs.so (by omega)) ?_;have hN : ∀ b, b = decide (e.kind = 2) → (PV.i .i64 e.rep :: .i .u32 e.seq :: .b b :: .i .i64 e.rep :: .i .u32 e.seq :: .s e.name :: ((vE fun _ => 0) ++ [.sl true 0 []])) = E6 true 0 (Mr e) := fun b hb => by subst hb; rfl
   have hN := hN false (by simp [hk]);have hl9 : ((vE fun _ => 0) ++ [PV.sl true 0 []]).length = 9 := by simp [Bl]
   simp (disch := omega) only [Bf, Af, hk, Ea, hN, hl9, D7, go_sem];have hp := P0 s.objs (Aj e);refine Aa (Anp (m := 38) (n := 75) (s.objs.map Ax) (E6 true 0 (Mr e)) (Ca s.objs (Aj e)) (by simpa using hp) (by simp; omega) (Xl _) (D7 _ _ _) (by decide) (by decide) (by decide) (by decide) rfl rfl) ?_;simp (disch := omega) only [Bf, C4, Ea, go_sem];refine Aa (Zv (l := s.ents) e (Aj e) hs.se (by omega)) ?_;simp (disch := omega) only [go_sem];refine ⟨_, Gm 93 rfl (Ew 76 38 (by decide) rfl (.same _)), ?_⟩
   (try simp only [De, Dd, Dc, Db, Da, C9, C8, C7]); simp (disch := omega) only [mkS, go_sem]
 · skip
   simp (disch := omega) only [ir37, Iw, A7, Fb, Af, n8, n9, hk, C4, go_sem];refine Aa (Mp (s := s) (G6 e) hs.so (by omega) rfl) ?_;simp (disch := omega) only [hd, Bf, go_sem];refine Aa (L7 (l := s.objs) (Aj e) rfl rfl hs.so (by omega)) ?_;have hN : ∀ b, b = decide (e.kind = 2) → (PV.i .i64 e.rep :: .i .u32 e.seq :: .b b :: .i .i64 e.rep :: .i .u32 e.seq :: .s e.name :: ((vE fun _ => 0) ++ [.sl true 0 []])) = E6 true 0 (Mr e) := fun b hb => by subst hb; rfl
   have hN := hN true (by simp [hk]);have hl9 : ((vE fun _ => 0) ++ [PV.sl true 0 []]).length = 9 := by simp [Bl]
   simp (disch := omega) only [Bf, Af, hk, Ea, hN, hl9, D7, go_sem];have hp := P0 s.objs (Aj e);refine Aa (Anp (m := 38) (n := 75) (s.objs.map Ax) (E6 true 0 (Mr e)) (Ca s.objs (Aj e)) (by simpa using hp) (by simp; omega) (Xl _) (D7 _ _ _) (by decide) (by decide) (by decide) (by decide) rfl rfl) ?_;simp (disch := omega) only [Bf, C4, Ea, go_sem];refine Aa (Zv (l := s.ents) e (Aj e) hs.se (by omega)) ?_;simp (disch := omega) only [go_sem];refine ⟨_, Gm 93 rfl (Ew 76 38 (by decide) rfl (.same _)), ?_⟩
   (try simp only [De, Dd, Dc, Db, Da, C9, C8, C7]); simp (disch := omega) only [mkS, go_sem]
def I9 (s : St) (e : Evt) : St := { s with wards := Ds s.wards (e.rep - 1).toNat e.ward }
def Px (s : St) (e : Evt) : St := { s with ret := Ds s.ret (e.rep - 1).toNat true }
theorem Abj (s : St) {k : Nat} (hk : k < 8) (n : Int) (a b : PV) : splice (vE s.known ++ a :: b :: (iE s.wards ++ wE s.ret)) (10 + k) [.i .i64 n] = vE s.known ++ a :: b :: (iE (Ds s.wards k n) ++ wE s.ret) := by
 rw [← Xa hk];simp only [splice, vE, iE, wE, Cy];have hk2 : k = 0 ∨ k = 1 ∨ k = 2 ∨ k = 3 ∨ k = 4 ∨ k = 5 ∨ k = 6 ∨ k = 7 := by omega
 rcases hk2 with rfl | rfl | rfl | rfl | rfl | rfl | rfl | rfl <;> rfl
theorem Agr (s : St) {k : Nat} (hk : k < 8) (n : Bool) (a b : PV) : splice (vE s.known ++ a :: b :: (iE s.wards ++ wE s.ret)) (18 + k) [.b n] = vE s.known ++ a :: b :: (iE s.wards ++ wE (Ds s.ret k n)) := by
 rw [← W9 hk];simp only [splice, vE, iE, wE, Cy];have hk2 : k = 0 ∨ k = 1 ∨ k = 2 ∨ k = 3 ∨ k = 4 ∨ k = 5 ∨ k = 6 ∨ k = 7 := by omega
 rcases hk2 with rfl | rfl | rfl | rfl | rfl | rfl | rfl | rfl <;> rfl
theorem Yz (s : St) : Imp (.vec 26 (vE s.known ++ .sl false 15 (s.objs.map Ax) :: .sl false 15 (s.ents.map Bh) :: (iE s.wards ++ wE s.ret))) (.agg (Bd s)) :=
 Aul ⟨Bl _, _, rfl, _, rfl, _, rfl, Ru _, _, rfl, Q1 _, [], by simp, rfl⟩
theorem Ajb {s : St} {e : Evt} (hk : e.kind = 8) (hr : 1 ≤ e.rep ∧ e.rep ≤ 8) {h d} (hg : h 6 = some (.var (.agg (Bd s)))) :
 FunOk Tryz.prog 37 [.p 6 0, .vec 21 (Bo e)] h d (.pv (.i .i64 0)) [.upd 6 (.var (.agg (Bd (I9 s e))))] := by
 refine Tq (g := 6) Ae fn37 (by simp) (by simp [A8, tn]) (by simp [A8, tn]) hg rfl (by simp [Blk.ptr, SV.kill]) rfl (fun _ => rfl) fun F => ?_;obtain ⟨k, hk8, hre⟩ : ∃ k : Nat, k < 8 ∧ e.rep - 1 = k := ⟨(e.rep - 1).toNat, by omega, by omega⟩
 have hS : I9 s e = { s with wards := Ds s.wards k e.ward } := by unfold I9; rw [hre]; rfl
 have hsp := Abj s hk8 e.ward (.sl false 15 (s.objs.map Ax)) (.sl false 15 (s.ents.map Bh));rw [hS];simp (disch := omega) only [ir37, Bd, A7, Blk.ptr, Af, hk, D4, Z2, hre, hsp, go_sem];refine ⟨mk [(4, .pv (.i .i64 0)), (1000000, .p 6 0)] [(6, some (.var (.agg (Bd { s with wards := Ds s.wards k e.ward }))))], Am ?_ ?_, ?_⟩
 · simp (disch := omega) only [go_sem]
 · simp (disch := omega) only [go_sem];exact ⟨Yz { s with wards := Ds s.wards k e.ward }, rfl⟩
 (try simp only [De, Dd, Dc, Db, Da, C9, C8, C7]); simp (disch := omega) only [go_sem]
 exact ⟨6, rfl, rfl⟩
theorem Anw {s : St} {e : Evt} (hk : e.kind = 9) (hr : 1 ≤ e.rep ∧ e.rep ≤ 8) {h d} (hg : h 6 = some (.var (.agg (Bd s)))) :
 FunOk Tryz.prog 37 [.p 6 0, .vec 21 (Bo e)] h d (.pv (.i .i64 0)) [.upd 6 (.var (.agg (Bd (Px s e))))] := by
 refine Tq (g := 6) Ae fn37 (by simp) (by simp [A8, tn]) (by simp [A8, tn]) hg rfl (by simp [Blk.ptr, SV.kill]) rfl (fun _ => rfl) fun F => ?_;obtain ⟨k, hk8, hre⟩ : ∃ k : Nat, k < 8 ∧ e.rep - 1 = k := ⟨(e.rep - 1).toNat, by omega, by omega⟩
 have hS : Px s e = { s with ret := Ds s.ret k true } := by unfold Px; rw [hre]; rfl
 have hsp := Agr s hk8 true (.sl false 15 (s.objs.map Ax)) (.sl false 15 (s.ents.map Bh));rw [hS];simp (disch := omega) only [ir37, Bd, A7, Blk.ptr, Af, hk, D4, hre, hsp, go_sem];refine ⟨mk [(4, .pv (.i .i64 0)), (1000000, .p 6 0)] [(6, some (.var (.agg (Bd { s with ret := Ds s.ret k true }))))], Am ?_ ?_, ?_⟩
 · simp (disch := omega) only [go_sem]
 · simp (disch := omega) only [go_sem];exact ⟨Yz { s with ret := Ds s.ret k true }, rfl⟩
 (try simp only [De, Dd, Dc, Db, Da, C9, C8, C7]); simp (disch := omega) only [go_sem]
 exact ⟨6, rfl, rfl⟩
theorem Agt (s : St) (es : List (List PV)) : Blk.frz 38 (.sl false 15 es) (.var (Iw s)) = .var (.agg (A7 s (.pv (.sl false 15 es)) (Fb s))) := by
 simp [Iw, A7, Fb, Blk.frz, SV.frz, SV.frzL]
theorem Anv {s : St} {e : Evt} (hk : e.kind = 8) (hr : 1 ≤ e.rep ∧ e.rep ≤ 8) {h d} (hg : h 6 = some (.var (Iw s))) (h38 : h 38 = some (.row 15 (s.objs.map Ax))) :
 DeepOk Tryz.prog 37 [.p 6 0, .vec 21 (Bo e)] h d (.pv (.i .i64 0)) [.frz 38 (.sl false 15 (s.objs.map Ax)), .upd 6 (.var (.agg (Bd (I9 s e))))] :=
 DeepOk.frz (args' := [.p 6 0, .vec 21 (Bo e)]) (h' := fun k => if k = 38 then none else (h k).map (Blk.frz 38 (.sl false 15 (s.objs.map Ax)))) (d' := d) h38 rfl (fun k _ => rfl) (Ajb hk hr (by show (h 6).map _ = _; rw [hg, Option.map_some, Agt]; rfl))
theorem Atk {s : St} {e : Evt} (hk : e.kind = 9) (hr : 1 ≤ e.rep ∧ e.rep ≤ 8) {h d} (hg : h 6 = some (.var (Iw s))) (h38 : h 38 = some (.row 15 (s.objs.map Ax))) :
 DeepOk Tryz.prog 37 [.p 6 0, .vec 21 (Bo e)] h d (.pv (.i .i64 0)) [.frz 38 (.sl false 15 (s.objs.map Ax)), .upd 6 (.var (.agg (Bd (Px s e))))] :=
 DeepOk.frz (args' := [.p 6 0, .vec 21 (Bo e)]) (h' := fun k => if k = 38 then none else (h k).map (Blk.frz 38 (.sl false 15 (s.objs.map Ax)))) (d' := d) h38 rfl (fun k _ => rfl) (Anw hk hr (by show (h 6).map _ = _; rw [hg, Option.map_some, Agt]; rfl))
def Afb (l : List Bi) (i : Bi) : Int := match l.findIdx? (fun x => decide (i = x)) with
 | some k => k
 | none => -1
def Agn (f : Bool) (l : List Bi) (i : Bi) (k : Nat) : FS := mk [(8, .pv (.i .i64 k)), (7, .pv (.i .i64 l.length)), (0, .pv (.sl f 2 (l.map Ek))), (3, .p 3 0)] [(3, some (.var (.vec 2 [.i .i64 i.1, .i .u32 i.2])))]
set_option maxHeartbeats 1000000 in
theorem Anq {f : Bool} {l : List Bi} (i : Bi) {h d} (hn : l.length ≤ 1000) : FunOk Tryz.prog 131 [.pv (.sl f 2 (l.map Ek)), .vec 2 [.i .i64 i.1, .i .u32 i.2]] h d (.pv (.i .i64 (Afb l i))) [] := by
 refine Au Ae fn131 (by simp) rfl rfl fun F => ?_;simp (disch := omega) only [ir131, List.length_map, go_sem];refine A1 Ae (Agn f l i) (fun k => k ≤ l.length ∧ ∀ j x, j < k → l[j]? = some x → i ≠ x) (fun k => l.length - k) 0 ⟨by simp, fun j x hj => absurd hj (Nat.not_lt_zero j)⟩ (Am ?_ ?_) fun k hk => ?_
 · simp (disch := omega) only [go_sem]
 · simp (disch := omega) only [go_sem]
 obtain ⟨hk1, hk2⟩ := hk;by_cases hlt : k < l.length
 · have hx : l[k]? = some l[k] := List.getElem?_eq_getElem hlt;have he : (l.map Ek)[k]? = some (Ek l[k]) := by rw [List.getElem?_map, hx]; rfl
   generalize l[k] = b at *;by_cases hb : i = b
   · have hp := F8 hb;have e : Afb l i = k := by
      have : l.findIdx? (fun x => decide (i = x)) = some k := by
       rw [List.findIdx?_eq_some_iff_getElem];refine ⟨hlt, by rw [List.getElem?_eq_getElem hlt] at hx; cases hx; simpa using hb, fun j hj => ?_⟩;have := hk2 j _ hj (List.getElem?_eq_getElem (by omega));simpa using this
      unfold Afb; rw [this]
     simp (disch := omega) only [Agn, List.length_map, he, Ez, Ai, hp, e, go_sem]
   · have hp := F9 hb;simp (disch := omega) only [Agn, List.length_map, he, Ez, Ai, hp, go_sem];refine Ad (k + 1) _ _ rfl ⟨by omega, fun j x hj hjx => ?_⟩ (by omega) ?_ ?_
     · by_cases ej : j = k
       · subst ej; rw [hx] at hjx; cases hjx; exact hb
       · exact hk2 j x (by omega) hjx
     · simp (disch := omega) only [go_sem]
     · simp (disch := omega) only [go_sem]
 · obtain rfl : k = l.length := by omega
   have e : Afb l i = -1 := by
    have : l.findIdx? (fun x => decide (i = x)) = none := by
     rw [List.findIdx?_eq_none_iff];intro x hx;obtain ⟨j, hj⟩ := List.mem_iff_getElem?.1 hx;have := hk2 j x (List.getElem?_eq_some_iff.1 hj).1 hj;simpa using this
    unfold Afb; rw [this]
   simp (disch := omega) only [Agn, e, go_sem]
theorem Apf (l : List Bi) (i : Bi) : decide (0 ≤ Afb l i) = decide (i ∈ l) := by
 unfold Afb;cases h : l.findIdx? (fun x => decide (i = x)) with
 | some k =>
   have := List.findIdx?_eq_some_iff_getElem.1 h;obtain ⟨h1, h2, _⟩ := this;have h3 : i = l[k] := by simpa using h2
   have : i ∈ l := by rw [h3]; exact List.getElem_mem h1
   simp only [this, decide_true, decide_eq_true_eq]; omega
 | none =>
   have h2 := List.findIdx?_eq_none_iff.1 h;have : ¬ i ∈ l := fun hm => by have := h2 i hm; simp at this
   simp only [this, decide_false, decide_eq_false_iff_not]; omega
theorem Sk (g : SlI) (i : Bi) (hg : g.ok) {h d} (hn : g.l.length ≤ 1000) : FunOk Tryz.prog 106 [.pv g.pv, .vec 2 [.i .i64 i.1, .i .u32 i.2]] h d (.pv (.b (decide (i ∈ g.l)))) [] := by
 refine FunOk.imp (args' := [.pv (.sl g.f 2 (g.l.map Ek)), .vec 2 [.i .i64 i.1, .i .u32 i.2]]) ?_ ⟨Tb g hg, Imp.refl _, trivial⟩ (by simp [A8, tn]);refine Au Ae fn106 (by simp) rfl rfl fun F => ?_;have e := Apf g.l i;simp (disch := omega) only [ir106, go_sem];refine Aa (Anq (l := g.l) i hn) ?_;simp (disch := omega) only [e, go_sem]
def Eo (e : Evt) (x : Ent) : Bool := decide (x.obj = Aw e) && decide (x.id ∈ e.gone.l)
def Ff (e : Evt) (l m : List Ent) : List Ent := m.foldl (fun a x => if Eo e x = true then killL a x.id (Aj e) else a) l
theorem Vp (e : Evt) (l m : List Ent) (x : Ent) : Ff e l (m ++ [x]) = if Eo e x = true then killL (Ff e l m) x.id (Aj e) else Ff e l m := by
 simp [Ff, List.foldl_append]
theorem Lo {e : Evt} {l : List Ent} (h : Dl l) : ∀ m : List Ent, Dl (Ff e l m) := fun m => by
 unfold Ff
 induction m generalizing l with
 | nil => exact h
 | cons x m ih =>
   simp only [List.foldl_cons];split
   · exact ih (Ain h _ _)
   · exact ih h
theorem Ry {e : Evt} {l : List Ent} : ∀ m : List Ent, (Ff e l m).length = l.length := fun m => by
 unfold Ff
 induction m generalizing l with
 | nil => rfl
 | cons x m ih =>
   simp only [List.foldl_cons];split
   · rw [ih]; exact At7 _ _ _
   · exact ih
def Abf (s : St) (e : Evt) (i k : Nat) : FS := mk [(27, .pv (.i .i64 k)), (26, .pv (.i .i64 s.ents.length)), (25, .pv (.sl false 15 (s.ents.map Bh))), (5, .p 5 0), (0, .p 6 0), (1, .pr 38 15 i 0), (1000000, .p 6 0)] [(5, some (.var (.vec 21 (Bo e)))), (6, some (.var (.agg (A7 s (.os 38) (.pv (.sl false 15 ((Ff e s.ents (s.ents.take k)).map Bh))))))), (38, some (.row 15 (s.objs.map Ax)))]
theorem Amx {α : Type} {l : List α} {i : Nat} {x : α} (h : l[i]? = some x) : l.set i x = l := by
 obtain ⟨h1, h2⟩ := List.getElem?_eq_some_iff.1 h;rw [← h2]; exact List.set_getElem_self h1
def Sp (s : St) (e : Evt) (i : Nat) (o : Obj) : St := { s with objs := s.objs.set i { o with seen := Ck o.seen (A3 e.dep e.rep e.seq) }, ents := Ff e s.ents s.ents }
set_option maxHeartbeats 4000000 in
theorem Aeu {s : St} {e : Evt} {o : Obj} {i : Nat} (hs : StOk s) (he : ev e) (hk : e.kind = 6) (ho : s.objs[i]? = some o) {h d}
 (hg : h 6 = some (.var (Iw s))) (h38 : h 38 = some (.row 15 (s.objs.map Ax))) :
 DeepOk Tryz.prog 78 [.p 6 0, .pr 38 15 i 0, .vec 21 (Bo e)] h d (.pv (.i .i64 0)) [.new 38 (.row 15 ((Sp s e i o).objs.map Ax)), .upd 6 (.var (Iw (Sp s e i o)))] := by
 refine Ep Ae fn78 (by simp) hg h38 (by decide) rfl (Dr _) fun F => ?_;have hil := (List.getElem?_eq_some_iff.1 ho).1;have hel : (s.objs.map Ax)[i]? = some (Ax o) := by rw [List.getElem?_map, ho]; rfl
 have hgd := Qi ho;have a3 := hs.fine.en;simp (disch := omega) only [ir78, Iw, A7, Fb, Af, hk, List.length_map, go_sem];refine A1 Ae (Abf s e i) (fun k => k ≤ s.ents.length) (fun k => s.ents.length - k) 0 (by simp) (Am ?_ ?_) fun k hk => ?_
 · simp (disch := omega) only [go_sem]
 · simp (disch := omega) only [A7, Ff, List.take_zero, List.foldl_nil, go_sem]
 by_cases hlt : k < s.ents.length
 · have hx : s.ents[k]? = some s.ents[k] := List.getElem?_eq_getElem hlt;have hel : (s.ents.map Bh)[k]? = some (Bh s.ents[k]) := by rw [List.getElem?_map, hx]; rfl
   have ht := Dg hx;have hsn := Vp e s.ents (s.ents.take k) s.ents[k];rw [← ht] at hsn;generalize s.ents[k] = x at *;have hel15 := Dk x;have hsoK := Lo (e := e) hs.se (s.ents.take k);have hlK := Ry (e := e) (l := s.ents) (s.ents.take k);by_cases h1 : x.obj = Aw e
   · have hp := F8 h1;have hpv : e.gone.pv = .sl e.gone.f e.gone.z (e.gone.l.map Ek) := rfl;simp (disch := omega) only [Abf, A7, List.length_map, hel, E0, hel15, Cv, Ba, Bt, Ai, hp, Gk, C5, go_sem];refine Aa (Sk e.gone x.id he.1 he.2.2.1) ?_;by_cases h2 : x.id ∈ e.gone.l
     · have hg : Eo e x = true := by unfold Eo; simp [h1, h2]
       rw [if_pos hg] at hsn;simp (disch := omega) only [h2, C5, Bf, go_sem];refine Aa (Ag6 (l := Ff e s.ents (s.ents.take k)) x.id (Aj e) rfl rfl hsoK (by omega)) ?_;simp (disch := omega) only [go_sem];refine ⟨k + 1, by omega, by omega, Gm 52 rfl (Am ?_ ?_)⟩
       · simp (disch := omega) only [go_sem]
       · simp (disch := omega) only [A7, hsn, go_sem]
     · have hg : ¬ Eo e x = true := by unfold Eo; simp [h2]
       rw [if_neg hg] at hsn;simp (disch := omega) only [h2, go_sem];refine Ad (k + 1) _ _ rfl (by omega) (by omega) ?_ ?_
       · simp (disch := omega) only [go_sem]
       · simp (disch := omega) only [A7, hsn, go_sem]
   · have hp := F9 h1;have hg : ¬ Eo e x = true := by unfold Eo; simp [h1]
     rw [if_neg hg] at hsn;simp (disch := omega) only [Abf, A7, List.length_map, hel, E0, hel15, Cv, Ba, Bt, Ai, hp, C5, go_sem];refine Ad (k + 1) _ _ rfl (by omega) (by omega) ?_ ?_
     · simp (disch := omega) only [go_sem]
     · simp (disch := omega) only [A7, hsn, go_sem]
 obtain rfl : k = s.ents.length := by omega
 have htk : s.ents.take s.ents.length = s.ents := List.take_length;simp (disch := omega) only [Abf, A7, htk, Af, hk, hel, Li, Fp, Bf, go_sem];refine Aa (Zo e.dep e.rep e.seq) ?_;simp (disch := omega) only [go_sem];refine Aa (Ayp o.seen (A3 e.dep e.rep e.seq)) ?_;have hsp := Abg o (Ck o.seen (A3 e.dep e.rep e.seq));have hset : (s.objs.map Ax).set i (Ax { o with seen := Ck o.seen (A3 e.dep e.rep e.seq) }) = (Sp s e i o).objs.map Ax := by
  unfold Sp; rw [List.map_set]
 have hvl := Bl (Ck o.seen (A3 e.dep e.rep e.seq));simp (disch := omega) only [hgd, hsp, List.length_map, hset, go_sem];refine Br ?_;simp (disch := omega) only [Sp, go_sem]
def Vg (e : Evt) (o : Obj) : Obj := if Bp o.last.1 o.last.2 e.rep e.seq = true then { o with last := Aj e, name := e.name } else o
def Mt (s : St) (e : Evt) (i : Nat) (o : Obj) : St := { s with objs := s.objs.set i (Vg e o), ents := Qu (Ff e s.ents s.ents) (E9 e (Aw e)) }
set_option maxHeartbeats 4000000 in
theorem Aet {s : St} {e : Evt} {o : Obj} {i : Nat} (hs : StOk s) (he : ev e) (hk : e.kind = 7) (hd : Jh s.objs (G6 e) = 0) (ho : s.objs[i]? = some o) {h d}
 (hg : h 6 = some (.var (Iw s))) (h38 : h 38 = some (.row 15 (s.objs.map Ax))) :
 DeepOk Tryz.prog 78 [.p 6 0, .pr 38 15 i 0, .vec 21 (Bo e)] h d (.pv (.i .i64 0)) [.new 38 (.row 15 ((Mt s e i o).objs.map Ax)), .upd 6 (.var (Iw (Mt s e i o)))] := by
 refine Ep Ae fn78 (by simp) hg h38 (by decide) rfl (Dr _) fun F => ?_;have hil := (List.getElem?_eq_some_iff.1 ho).1;have hel : (s.objs.map Ax)[i]? = some (Ax o) := by rw [List.getElem?_map, ho]; rfl
 have hgd := Qi ho;have a1 := hs.fine.on;have a3 := hs.fine.en;simp (disch := omega) only [ir78, Iw, A7, Fb, Af, hk, C4, go_sem];refine Aa (Mp (s := s) (G6 e) hs.so (by omega) rfl) ?_;simp (disch := omega) only [hd, List.length_map, go_sem];refine A1 Ae (Abf s e i) (fun k => k ≤ s.ents.length) (fun k => s.ents.length - k) 0 (by simp) (Am ?_ ?_) fun k hk => ?_
 · simp (disch := omega) only [go_sem]
 · simp (disch := omega) only [A7, Ff, List.take_zero, List.foldl_nil, go_sem]
 by_cases hlt : k < s.ents.length
 · have hx : s.ents[k]? = some s.ents[k] := List.getElem?_eq_getElem hlt;have hel : (s.ents.map Bh)[k]? = some (Bh s.ents[k]) := by rw [List.getElem?_map, hx]; rfl
   have ht := Dg hx;have hsn := Vp e s.ents (s.ents.take k) s.ents[k];rw [← ht] at hsn;generalize s.ents[k] = x at *;have hel15 := Dk x;have hsoK := Lo (e := e) hs.se (s.ents.take k);have hlK := Ry (e := e) (l := s.ents) (s.ents.take k);by_cases h1 : x.obj = Aw e
   · have hp := F8 h1;have hpv : e.gone.pv = .sl e.gone.f e.gone.z (e.gone.l.map Ek) := rfl;simp (disch := omega) only [Abf, A7, List.length_map, hel, E0, hel15, Cv, Ba, Bt, Ai, hp, Gk, C5, go_sem];refine Aa (Sk e.gone x.id he.1 he.2.2.1) ?_;by_cases h2 : x.id ∈ e.gone.l
     · have hg : Eo e x = true := by unfold Eo; simp [h1, h2]
       rw [if_pos hg] at hsn;simp (disch := omega) only [h2, C5, Bf, go_sem];refine Aa (Ag6 (l := Ff e s.ents (s.ents.take k)) x.id (Aj e) rfl rfl hsoK (by omega)) ?_;simp (disch := omega) only [go_sem];refine ⟨k + 1, by omega, by omega, Gm 52 rfl (Am ?_ ?_)⟩
       · simp (disch := omega) only [go_sem]
       · simp (disch := omega) only [A7, hsn, go_sem]
     · have hg : ¬ Eo e x = true := by unfold Eo; simp [h2]
       rw [if_neg hg] at hsn;simp (disch := omega) only [h2, go_sem];refine Ad (k + 1) _ _ rfl (by omega) (by omega) ?_ ?_
       · simp (disch := omega) only [go_sem]
       · simp (disch := omega) only [A7, hsn, go_sem]
   · have hp := F9 h1;have hg : ¬ Eo e x = true := by unfold Eo; simp [h1]
     rw [if_neg hg] at hsn;simp (disch := omega) only [Abf, A7, List.length_map, hel, E0, hel15, Cv, Ba, Bt, Ai, hp, C5, go_sem];refine Ad (k + 1) _ _ rfl (by omega) (by omega) ?_ ?_
     · simp (disch := omega) only [go_sem]
     · simp (disch := omega) only [A7, hsn, go_sem]
 obtain rfl : k = s.ents.length := by omega
 have htk : s.ents.take s.ents.length = s.ents := List.take_length;have hsG := Lo (e := e) hs.se s.ents;have hlG := Ry (e := e) (l := s.ents) s.ents;simp (disch := omega) only [Abf, A7, htk, Af, hk, Bf, C4, Ea, Ba, go_sem];refine Aa (Zv (l := Ff e s.ents s.ents) e (Aw e) hsG (by omega)) ?_;simp (disch := omega) only [hel, Jg, Bf, go_sem];refine Aa (Mo o.last.1 o.last.2 e.rep e.seq) ?_;by_cases hl : Bp o.last.1 o.last.2 e.rep e.seq = true
 · have hmo : Vg e o = { o with last := Aj e, name := e.name } := if_pos hl;have hsp := Abi o (Aj e);have hsp2 := Abh { o with last := Aj e } e.name;have hset : ((s.objs.map Ax).set i (Ax { o with last := Aj e })).set i (Ax { o with last := Aj e, name := e.name }) = (Mt s e i o).objs.map Ax := by
    unfold Mt; rw [List.set_set, List.map_set, hmo]
   have hgd2 : ((s.objs.map Ax).set i (Ax { o with last := Aj e })).getD i [] = Ax { o with last := Aj e } := by
    rw [List.getD_eq_getElem?_getD, List.getElem?_set_self (by simpa using hil)]; rfl
   simp (disch := omega) only [hl, go_sem];refine Wh ?_;simp (disch := omega) only [Bf, Ea, hgd, hsp, List.length_map, List.length_set, hgd2, hsp2, hset, go_sem];refine ⟨_, Gm 86 rfl (.same _), ?_⟩
   (try simp only [De, Dd, Dc, Db, Da, C9, C8, C7]); simp (disch := omega) only [Mt, go_sem]
 · have hmo : Vg e o = o := if_neg hl;have hl' : Bp o.last.1 o.last.2 e.rep e.seq = false := by simpa using hl
   have hset : s.objs.map Ax = (Mt s e i o).objs.map Ax := by
    unfold Mt; rw [hmo];show _ = (s.objs.set i o).map Ax;rw [Amx ho]
   simp (disch := omega) only [hl', go_sem];refine ⟨_, Gm 86 rfl (.same _), ?_⟩
   (try simp only [De, Dd, Dc, Db, Da, C9, C8, C7]); simp (disch := omega) only [Mt, go_sem]
   exact congrArg (fun q => some (Blk.row 15 q)) hset
theorem Aes {s : St} {e : Evt} {i : Nat} (hs : StOk s) (hk : e.kind = 7) (hd : Jh s.objs (G6 e) ≠ 0) {h d}
 (hg : h 6 = some (.var (Iw s))) (h38 : h 38 = some (.row 15 (s.objs.map Ax))) :
 DeepOk Tryz.prog 78 [.p 6 0, .pr 38 15 i 0, .vec 21 (Bo e)] h d (.pv (.i .i64 (Jh s.objs (G6 e)))) [.new 38 (.row 15 (s.objs.map Ax)), .upd 6 (.var (Iw s))] := by
 refine Ep Ae fn78 (by simp) hg h38 (by decide) rfl (Dr _) fun F => ?_;have a1 := hs.fine.on;simp (disch := omega) only [ir78, Iw, A7, Fb, Af, hk, C4, go_sem];refine Aa (Mp (s := s) (G6 e) hs.so (by omega) rfl) ?_;simp (disch := omega) only [hd, go_sem];refine Br ?_;simp (disch := omega) only [go_sem]
set_option maxHeartbeats 4000000 in
theorem Any {s : St} {e : Evt} {o : Obj} (hs : StOk s) (he : ev e) (hk : e.kind = 6) (ho : s.objs[Ca s.objs (Aw e)]? = some o) (hid : o.id = Aw e) {h d}
 (hg : h 6 = some (.var (Iw s))) (h38 : h 38 = some (.row 15 (s.objs.map Ax))) :
 DeepOk Tryz.prog 37 [.p 6 0, .vec 21 (Bo e)] h d (.pv (.i .i64 0)) [.new 38 (.row 15 ((Sp s e (Ca s.objs (Aw e)) o).objs.map Ax)), .upd 6 (.var (Iw (Sp s e (Ca s.objs (Aw e)) o)))] := by
 refine Ep Ae fn37 (by simp) hg h38 (by decide) rfl (Dr _) fun F => ?_;have n8 : ¬ e.kind = 8 := by omega
 have n9 : ¬ e.kind = 9 := by omega
 have n1 : ¬ e.kind = 1 := by omega
 have n2 : ¬ e.kind = 2 := by omega
 have hi := Xw hs.so ho hid;have hlt := (List.getElem?_eq_some_iff.1 ho).1;have a1 := hs.fine.on;simp (disch := omega) only [ir37, Iw, A7, Fb, Af, n8, n9, n1, n2, Ba, go_sem];refine Aa (L7 (l := s.objs) (Aw e) rfl rfl hs.so (by omega)) ?_;simp (disch := omega) only [hi, List.length_map, hk, Af, B0, go_sem];refine Hm (Aeu hs he hk ho rfl rfl) ?_;simp (disch := omega) only [Iw, A7, Fb, go_sem];refine Br ?_;simp (disch := omega) only [go_sem]
set_option maxHeartbeats 4000000 in
theorem Anx {s : St} {e : Evt} {o : Obj} (hs : StOk s) (he : ev e) (hk : e.kind = 7) (hd : Jh s.objs (G6 e) = 0) (ho : s.objs[Ca s.objs (Aw e)]? = some o) (hid : o.id = Aw e) {h d}
 (hg : h 6 = some (.var (Iw s))) (h38 : h 38 = some (.row 15 (s.objs.map Ax))) :
 DeepOk Tryz.prog 37 [.p 6 0, .vec 21 (Bo e)] h d (.pv (.i .i64 0)) [.new 38 (.row 15 ((Mt s e (Ca s.objs (Aw e)) o).objs.map Ax)), .upd 6 (.var (Iw (Mt s e (Ca s.objs (Aw e)) o)))] := by
 refine Ep Ae fn37 (by simp) hg h38 (by decide) rfl (Dr _) fun F => ?_;have n8 : ¬ e.kind = 8 := by omega
 have n9 : ¬ e.kind = 9 := by omega
 have n1 : ¬ e.kind = 1 := by omega
 have n2 : ¬ e.kind = 2 := by omega
 have hi := Xw hs.so ho hid;have hlt := (List.getElem?_eq_some_iff.1 ho).1;have a1 := hs.fine.on;simp (disch := omega) only [ir37, Iw, A7, Fb, Af, n8, n9, n1, n2, Ba, go_sem];refine Aa (L7 (l := s.objs) (Aw e) rfl rfl hs.so (by omega)) ?_;simp (disch := omega) only [hi, List.length_map, hk, Af, B0, go_sem];refine Hm (Aet hs he hk hd ho rfl rfl) ?_;simp (disch := omega) only [Iw, A7, Fb, go_sem];refine Br ?_;simp (disch := omega) only [go_sem]
set_option maxHeartbeats 4000000 in
theorem Zt {s : St} {e : Evt} {o : Obj} (hs : StOk s) (hk : e.kind = 7) (hd : Jh s.objs (G6 e) ≠ 0) (ho : s.objs[Ca s.objs (Aw e)]? = some o) (hid : o.id = Aw e) : Yp s e (Jh s.objs (G6 e)) := by
 intro h d hg h38;refine ⟨s.objs.map Ax, Iw s, Ep Ae fn37 (by simp) hg h38 (by decide) rfl (Dr s) fun F => ?_⟩;have n8 : ¬ e.kind = 8 := by omega
 have n9 : ¬ e.kind = 9 := by omega
 have n1 : ¬ e.kind = 1 := by omega
 have n2 : ¬ e.kind = 2 := by omega
 have hi := Xw hs.so ho hid;have hlt := (List.getElem?_eq_some_iff.1 ho).1;have a1 := hs.fine.on;simp (disch := omega) only [ir37, Iw, A7, Fb, Af, n8, n9, n1, n2, Ba, go_sem];refine Aa (L7 (l := s.objs) (Aw e) rfl rfl hs.so (by omega)) ?_;simp (disch := omega) only [hi, List.length_map, hk, Af, B0, go_sem];refine Hm (Aes hs hk hd rfl rfl) ?_;simp (disch := omega) only [Iw, A7, Fb, go_sem];refine Br ?_;simp (disch := omega) only [go_sem]
end Go.Proofs.YthhomcfimdkfhaaGreat.Fw
namespace Go.Proofs.YthhomcfimdkfhaaGreat.Fw
open Go.RowKit Go.Proofs
def Di (l : List Obj) (i : Bi) : Option Obj := match l[Ca l i]? with
 | some o => if o.id = i then some o else none
 | none => none
theorem Fo {l : List Obj} {i : Bi} {o : Obj} (h : Di l i = some o) : l[Ca l i]? = some o ∧ o.id = i := by
 unfold Di at h;split at h
 · rename_i u hu;split at h
   · rename_i hi; cases h; exact ⟨hu, hi⟩
   · cases h
 · cases h
theorem Xx {l : List Obj} (hs : Ef l) (i : Bi) : isO l i = (Di l i).isSome := by
 rw [Qb hs]; unfold Di;cases l[Ca l i]? with
 | none => rfl
 | some x => simp only; by_cases h : x.id = i <;> simp [h]
theorem Vy {l : List Obj} (i : Bi) : Jh l i = if i = (0, 0) then 0 else match Di l i with | some o => if o.dir = true then 0 else 22 | none => 2 := by
 unfold Jh Di;split
 · rfl
 · cases l[Ca l i]? with
   | none => rfl
   | some x => simp only; by_cases h : x.id = i <;> simp [h]
open Classical in
noncomputable def Pm (s : St) (e : Evt) : Int :=
 if e.kind = 8 ∨ e.kind = 9 then 0
 else if e.kind = 1 ∨ e.kind = 2 then Jh s.objs (G6 e)
 else match Di s.objs (Aw e) with
  | none => 2
  | some o => if e.kind = 7 then Jh s.objs (G6 e) else if e.kind = 6 then 0 else if o.dir = true then 23 else if Cx o.vers e.base.l then 2 else 0
def doS (s : St) (e : Evt) : St :=
 if e.kind = 8 then I9 s e
 else if e.kind = 9 then Px s e
 else if e.kind = 1 ∨ e.kind = 2 then mkS s e
 else match Di s.objs (Aw e) with
  | none => s
  | some o => if e.kind = 7 then Mt s e (Ca s.objs (Aw e)) o else if e.kind = 6 then Sp s e (Ca s.objs (Aw e)) o else { s with objs := wrO s e o }
noncomputable def Ga (s : St) (e : Evt) : Int :=
 if Bg e = false then 7
 else if Bj s.known e.rep e.seq = true then 11
 else if ¬ Ua e.dep s.known then 10
 else if s.ret (e.rep - 1).toNat = true then 28
 else Pm s e
def G3 (s : St) (e : Evt) : St := { s with known := A3 s.known e.rep e.seq }
def G9 (s : St) (e : Evt) : St := doS (G3 s e) e
structure StIn (s : St) : Prop extends StOk s where
 sv : ∀ o ∈ s.objs, Ci o.vers
 sd : ∀ o ∈ s.objs, ∀ v ∈ o.vers, v.data.length ≤ 200
 sk : ∀ o ∈ s.objs, ∀ v ∈ o.vers, Bj s.known v.rep v.seq = true
theorem Cc {e : Evt} (h : Bg e = true) : He e := by
 unfold Bg at h;simp only [Bool.and_eq_true, decide_eq_true_eq] at h;exact h.1
theorem V5 {e : Evt} (h : Bg e = true) (hk : e.kind = 3 ∨ e.kind = 4 ∨ e.kind = 5) {l : List Ver} (hd : ∀ v ∈ l, v.data.length ≤ 200) : FitsW l e := by
 unfold Bg at h;simp only [Bool.and_eq_true, decide_eq_true_eq] at h;have hK := h.2.2.2;refine ⟨hk, fun h5 => ?_, fun h3 => ?_, hd⟩
 · have : e.kind = 3 ∨ e.kind = 4 := by omega
   rcases this with h3 | h4
   · rw [J0 h3] at hK;simp only [Bool.and_eq_true, Cl, decide_eq_true_eq] at hK;exact hK.2.2.1
   · rw [Nv h4] at hK;simp only [Bool.and_eq_true, Cl, decide_eq_true_eq] at hK;exact hK.2.2
 · rw [J0 h3] at hK;simp only [Bool.and_eq_true, Cl, decide_eq_true_eq] at hK;exact hK.2.2.2.2.2.2
theorem Oh {e : Evt} (h : Bg e = true) (hk : e.kind = 3 ∨ e.kind = 4 ∨ e.kind = 5) : e.base.l.length ≤ 8 := by
 unfold Bg at h;simp only [Bool.and_eq_true, decide_eq_true_eq] at h;have hK := h.2.2.2;rcases hk with h3 | h3 | h3
 · rw [J0 h3] at hK;simp only [Bool.and_eq_true, Eb, decide_eq_true_eq] at hK;have := hK.2.1.1; omega
 · rw [Nv h3] at hK;simp only [Bool.and_eq_true, Eb, decide_eq_true_eq] at hK;have := hK.2.1.1; omega
 · rw [Nu h3] at hK;simp only [Bool.and_eq_true, Eb, decide_eq_true_eq] at hK;have := hK.2.1.1; omega
structure DoIn (s : St) (e : Evt) : Prop where
 ok : StOk s
 ev : ev e
 ck : Bg e = true
 vo : e.kind = 3 ∨ e.kind = 4 ∨ e.kind = 5 → ∀ o ∈ s.objs, VerOk o e
theorem A4s {s : St} {e : Evt} (hi : DoIn s e) (hw : Pm s e ≠ 0) : Yp s e (Pm s e) := by
 have hb := Cc hi.ck;obtain ⟨b1, b2, b3, b4, b5, b6, b7⟩ := hb;unfold Pm at hw ⊢;rcases Classical.em (e.kind = 8 ∨ e.kind = 9) with h89 | h89
 · rw [if_pos h89] at hw; exact absurd rfl hw
 rw [if_neg h89] at hw ⊢;rcases Classical.em (e.kind = 1 ∨ e.kind = 2) with h12 | h12
 · rw [if_pos h12] at hw ⊢;exact Ajc hi.ok h12 hw
 rw [if_neg h12] at hw ⊢;have hk : e.kind = 3 ∨ e.kind = 4 ∨ e.kind = 5 ∨ e.kind = 6 ∨ e.kind = 7 := by omega
 cases ho : Di s.objs (Aw e) with
 | none =>
   have : isO s.objs (Aw e) = false := by rw [Xx hi.ok.so, ho]; rfl
   exact Aja hi.ok hk this
 | some o =>
   rw [ho] at hw;simp only at hw ⊢;obtain ⟨g1, g2⟩ := Fo ho;rcases Classical.em (e.kind = 7) with h7 | h7
   · rw [if_pos h7] at hw ⊢;exact Zt hi.ok h7 hw g1 g2
   rw [if_neg h7] at hw ⊢;rcases Classical.em (e.kind = 6) with h6 | h6
   · rw [if_pos h6] at hw; exact absurd rfl hw
   rw [if_neg h6] at hw ⊢;have hk : e.kind = 3 ∨ e.kind = 4 ∨ e.kind = 5 := by omega
   rcases Classical.em (o.dir = true) with hd | hd
   · rw [if_pos hd]; exact Anu hi.ok hk g1 g2 hd
   rw [if_neg hd] at hw ⊢;rcases Classical.em (Cx o.vers e.base.l) with hm | hm
   · rw [if_pos hm]; exact Aew hi.ok hi.ev g1 g2 (by simpa using hd) (hi.vo hk o (List.mem_of_getElem? g1)) hm
   · rw [if_neg hm] at hw; exact absurd rfl hw
theorem A67 {s : St} {e : Evt} (hi : DoIn s e) (hw : Pm s e = 0) (hk : ¬ (e.kind = 8 ∨ e.kind = 9)) : ∃ r, PImpR r ((doS s e).objs.map Ax) ∧
 ∀ {h : Nat → Option Blk} {d : Nat}, h 6 = some (.var (Iw s)) → h 38 = some (.row 15 (s.objs.map Ax)) → DeepOk Tryz.prog 37 [.p 6 0, .vec 21 (Bo e)] h d (.pv (.i .i64 0)) [.new 38 (.row 15 r), .upd 6 (.var (Iw (doS s e)))] := by
 have hb := Cc hi.ck;obtain ⟨b1, b2, b3, b4, b5, b6, b7⟩ := hb;have n8 : ¬ e.kind = 8 := fun h => hk (.inl h);have n9 : ¬ e.kind = 9 := fun h => hk (.inr h);unfold Pm at hw;unfold doS;rw [if_neg hk] at hw;rw [if_neg n8, if_neg n9];by_cases h12 : e.kind = 1 ∨ e.kind = 2
 · rw [if_pos h12] at hw ⊢;refine ⟨_, ?_, fun hg h38 => A2u hi.ok h12 hw hg h38⟩;simp only [mkS, List.map_append, List.map_take, List.map_drop, List.map_cons];exact PImpR.app (.refl _) ⟨Aha (Mr e) (.inl rfl), .refl _⟩
 rw [if_neg h12] at hw ⊢;have hk' : e.kind = 3 ∨ e.kind = 4 ∨ e.kind = 5 ∨ e.kind = 6 ∨ e.kind = 7 := by omega
 cases ho : Di s.objs (Aw e) with
 | none => rw [ho] at hw; cases hw
 | some o =>
   rw [ho] at hw;simp only at hw ⊢;obtain ⟨g1, g2⟩ := Fo ho;by_cases h7 : e.kind = 7
   · rw [if_pos h7] at hw ⊢;exact ⟨_, .refl _, fun hg h38 => Anx hi.ok hi.ev h7 hw g1 g2 hg h38⟩
   rw [if_neg h7] at hw ⊢;by_cases h6 : e.kind = 6
   · rw [if_pos h6];exact ⟨_, .refl _, fun hg h38 => Any hi.ok hi.ev h6 g1 g2 hg h38⟩
   rw [if_neg h6] at hw ⊢;have hk : e.kind = 3 ∨ e.kind = 4 ∨ e.kind = 5 := by omega
   by_cases hd : o.dir = true
   · rw [if_pos hd] at hw; cases hw
   rw [if_neg hd] at hw;by_cases hm : Cx o.vers e.base.l
   · rw [if_pos hm] at hw; cases hw
   · exact ⟨_, .refl _, fun hg h38 => A2t hi.ok hi.ev g1 g2 (by simpa using hd) (hi.vo hk o (List.mem_of_getElem? g1)) hm hg h38⟩
theorem Apz {s : St} (hs : StIn s) {e : Evt} (h : Bj s.known e.rep e.seq = false) {o : Obj} (ho : o ∈ s.objs) : Bm o.vers e.rep e.seq = none := by
 rw [Lt];intro v hv ⟨h1, h2⟩;have := hs.sk o ho v hv;rw [h1, h2, h] at this; cases this
theorem Ajx {s : St} (hs : StIn s) {e : Evt} (he : ev e) (hc : Bg e = true) (h : Bj s.known e.rep e.seq = false) : DoIn (G3 s e) e :=
 ⟨⟨⟨hs.fine.on, hs.fine.ov, hs.fine.en⟩, hs.so, hs.se⟩, he, hc, fun hk o ho => ⟨hs.sv o ho, V5 hc hk (hs.sd o ho), Apz hs h ho, Nat.le_trans (Oh hc hk) (by omega)⟩⟩
theorem Ahi (a b : PV) (w : Nat → Int) (r : Nat → Bool) {j : Nat} (hj : j < 8) (K : KK) : LoadK (some (a :: b :: (iE w ++ wE r))) (18 + j - 8) 1 false K = K (.pv (.b (r j))) [] := by
 have e : 18 + j - 8 = 10 + j := by omega
 rw [e];simp only [LoadK, Ik, eq_iff_iff];have e2 : (a :: b :: (iE w ++ wE r)).getD (10 + j) (.b false) = .b (r j) := by
  have hk2 : j = 0 ∨ j = 1 ∨ j = 2 ∨ j = 3 ∨ j = 4 ∨ j = 5 ∨ j = 6 ∨ j = 7 := by omega
  simp only [iE, wE, Cy];rcases hk2 with rfl | rfl | rfl | rfl | rfl | rfl | rfl | rfl <;> rfl
 rw [e2];exact ⟨fun h => h.2.2, fun h => ⟨by simp [Ru, Q1]; omega, .inr trivial, h⟩⟩
theorem Pn {x y z : SV} (h : Imp x y) : Imp (.tup [x, z]) (.tup [y, z]) := Auk ⟨h, Imp.refl _, trivial⟩
noncomputable def Abv (s : St) (e : Evt) : St := if Ga s e = 0 then G9 s e else st0
theorem Py {s : St} {e : Evt} {n : Int} (h : Ga s e = n) (hn : n ≠ 0) : Imp (.tup [.agg [.vec 8 (vE fun _ => 0), .pv (.sl true 0 []), .pv (.sl true 0 []), .vec 8 (iE fun _ => 0), .vec 8 (wE fun _ => false)], .pv (.i .i64 n)]) (.tup [.agg (Bd (Abv s e)), .pv (.i .i64 (Ga s e))]) := by
 have e1 : Abv s e = st0 := if_neg (by rw [h]; exact hn);rw [e1, h];exact Pn Uv
set_option maxHeartbeats 8000000 in
theorem Tg {s : St} {e : Evt} (hs : StIn s) (he : ev e) {h d} : FunOk Tryz.prog 13 [.agg (Bd s), .vec 21 (Bo e)] h d (.tup [.agg (Bd (Abv s e)), .pv (.i .i64 (Ga s e))]) [] := by
 refine Nx Ae fn13 (by simp) rfl rfl fun F => ?_;simp (disch := omega) only [ir13, Bd, A7, B0, go_sem];refine Aa (Atn e he) ?_;by_cases hc' : Bg e = false
 · have hw : Ga s e = 7 := if_pos hc';simp (disch := omega) only [hc', go_sem];refine Br ?_;simp (disch := omega) only [go_sem];exact Py hw (by decide)
 have hc : Bg e = true := by simpa using hc'
 have hb := Cc hc;obtain ⟨b1, b2, _⟩ := hb;simp (disch := omega) only [hc, Bf, Fp, go_sem];refine Aa (Jc _ _ _) ?_;by_cases h1 : Bj s.known e.rep e.seq = true
 · have hw : Ga s e = 11 := by unfold Ga; rw [if_neg hc', if_pos h1]
   simp (disch := omega) only [h1, go_sem];refine Br ?_;simp (disch := omega) only [go_sem];exact Py hw (by decide)
 have h1' : Bj s.known e.rep e.seq = false := by simpa using h1
 simp (disch := omega) only [h1', Fp, go_sem];refine Aa (A2p _ _) ?_;by_cases h2 : Ua e.dep s.known;rotate_left
 · have hw : Ga s e = 10 := by unfold Ga; rw [if_neg hc', if_neg h1, if_pos h2]
   have h2' := decide_eq_false h2;simp (disch := omega) only [h2', go_sem];refine Br ?_;simp (disch := omega) only [go_sem];exact Py hw (by decide)
 have h2' := decide_eq_true h2;obtain ⟨k, hk8, hre⟩ : ∃ k : Nat, k < 8 ∧ e.rep - 1 = k := ⟨(e.rep - 1).toNat, by omega, by omega⟩
 have hld := fun (a b : PV) (w : Nat → Int) (r : Nat → Bool) (K : KK) => Ahi a b w r hk8 K;simp (disch := omega) only [h2', D4, hre, hld, go_sem];by_cases h3 : s.ret k = true
 · have hw : Ga s e = 28 := by unfold Ga; rw [if_neg hc', if_neg h1, if_neg (by simpa using h2), if_pos (by rw [hre]; exact h3)]
   simp (disch := omega) only [h3, go_sem];refine Br ?_;simp (disch := omega) only [go_sem];exact Py hw (by decide)
 have h3' : s.ret k = false := by simpa using h3
 have hw : Ga s e = Pm (G3 s e) e := by unfold Ga; rw [if_neg hc', if_neg h1, if_neg (by simpa using h2), if_neg (by rw [hre]; exact h3)]; rfl
 simp (disch := omega) only [h3', go_sem];refine Aa (An1 (s := s) hs.fine) ?_;simp (disch := omega) only [A7, Fb, Bf, go_sem];refine Aa (Zo s.known e.rep e.seq) ?_;have hvl := Bl (A3 s.known e.rep e.seq);simp (disch := omega) only [B0, hvl, go_sem];have hdi := Ajx hs he hc h1';by_cases hz : Pm (G3 s e) e = 0;rotate_left
 · generalize hH : FS.h _ = H;have g6 : H 6 = some (.var (Iw (G3 s e))) := by rw [← hH]; rfl
   have g38 : H 38 = some (.row 15 ((G3 s e).objs.map Ax)) := by rw [← hH]; rfl
   obtain ⟨r, X, hdo⟩ := A4s hdi hz H 46 g6 g38;refine Hm hdo ?_;simp (disch := omega) only [hz, go_sem];refine Br ?_;simp (disch := omega) only [go_sem];exact Py hw hz
 have hR : Abv s e = doS (G3 s e) e := if_pos (hw.trans hz);rw [hR, hw, hz];by_cases h8 : e.kind = 8
 · have hS : doS (G3 s e) e = I9 (G3 s e) e := if_pos h8;rw [hS];refine Hm (Anv (s := G3 s e) h8 ⟨b1, b2⟩ rfl rfl) ?_;simp (disch := omega) only [Bd, A7, go_sem];refine Br ?_;simp (disch := omega) only [go_sem]
 by_cases h9 : e.kind = 9
 · have hS : doS (G3 s e) e = Px (G3 s e) e := by unfold doS; rw [if_neg h8, if_pos h9]
   rw [hS];refine Hm (Atk (s := G3 s e) h9 ⟨b1, b2⟩ rfl rfl) ?_;simp (disch := omega) only [Bd, A7, go_sem];refine Br ?_;simp (disch := omega) only [go_sem]
 obtain ⟨r, hr, hdo⟩ := A67 hdi hz (fun h => h.elim h8 h9);refine Hm (hdo rfl rfl) ?_;generalize doS (G3 s e) e = S at *;simp (disch := omega) only [Iw, A7, Fb, go_sem];refine ⟨_, Gm 38 rfl (.same _), ?_⟩
 (try simp only [De, Dd, Dc, Db, Da, C9, C8, C7]); simp (disch := omega) only [go_sem]
 exact Pn (Zf (s := S) (.inr rfl) (.inr rfl) hr (.refl _))
end Go.Proofs.YthhomcfimdkfhaaGreat.Fw
namespace Go.Proofs.YthhomcfimdkfhaaGreat.Fw
open Go.RowKit Go.Proofs
theorem Ani (r : Int) (q : Nat) {h d} : FunOk Tryz.prog 65 [.vec 2 [.i .i64 r, .i .u32 q]] h d (.pv (.b (Bx r q))) [] := by
 refine Au Ae fn65 (by simp) rfl rfl fun F => ?_;by_cases h1 : r = 0
 · by_cases h2 : q = 0
   · have e : Bx r q = true := decide_eq_true ⟨h1, h2⟩;have h2' : (q : Int) = 0 := by omega
     simp (disch := omega) only [ir65, Rl, Rk, h1, h2', e, go_sem];simp [Bx, h2]
   · have e : Bx r q = false := decide_eq_false fun h => h2 h.2;have h2' : ¬ (q : Int) = 0 := by omega
     simp (disch := omega) only [ir65, Rl, Rk, h1, h2', e, go_sem];simp [Bx, h2]
 · have e : Bx r q = false := decide_eq_false fun h => h1 h.1;simp (disch := omega) only [ir65, Rl, Rk, h1, e, go_sem]
def Y7 (f : Bool) (l : List Bi) (i : Bi) (k : Nat) : FS := mk [(5, .pv (.i .i64 k)), (0, .pv (.sl f 2 (l.map Ek))), (3, .p 3 0)] [(3, some (.var (.vec 2 [.i .i64 i.1, .i .u32 i.2])))]
set_option maxHeartbeats 1000000 in
theorem Oy (g : SlI) (i : Bi) (hg : g.ok) {h d} (hn : g.l.length ≤ 1000) : FunOk Tryz.prog 66 [.pv g.pv, .vec 2 [.i .i64 i.1, .i .u32 i.2]] h d (.pv (.b (decide (i ∈ g.l)))) [] := by
 refine FunOk.imp (args' := [.pv (.sl g.f 2 (g.l.map Ek)), .vec 2 [.i .i64 i.1, .i .u32 i.2]]) ?_ ⟨Tb g hg, Imp.refl _, trivial⟩ (by simp [A8, tn]);refine Au Ae fn66 (by simp) rfl rfl fun F => ?_;generalize g.f = f;generalize g.l = l at *;simp (disch := omega) only [ir66, List.length_map, go_sem];refine A1 Ae (Y7 f l i) (fun k => k ≤ l.length ∧ ∀ j x, j < k → l[j]? = some x → i ≠ x) (fun k => l.length - k) 0 ⟨by simp, fun j x hj => absurd hj (Nat.not_lt_zero j)⟩ (Am ?_ ?_) fun k hk => ?_
 · simp (disch := omega) only [go_sem]
 · simp (disch := omega) only [go_sem]
 obtain ⟨hk1, hk2⟩ := hk;by_cases hlt : k < l.length
 · have hx : l[k]? = some l[k] := List.getElem?_eq_getElem hlt;have he : (l.map Ek)[k]? = some (Ek l[k]) := by rw [List.getElem?_map, hx]; rfl
   have hm := List.getElem_mem hlt;generalize l[k] = b at *;by_cases hb : b = i
   · have hp := F8 hb;have e : decide (i ∈ l) = true := decide_eq_true (hb ▸ hm);simp (disch := omega) only [Y7, List.length_map, he, Ez, Ai, hp, e, go_sem]
   · have hp := F9 hb;simp (disch := omega) only [Y7, List.length_map, he, Ez, Ai, hp, go_sem];refine Ad (k + 1) _ _ rfl ⟨by omega, fun j x hj hjx => ?_⟩ (by omega) ?_ ?_
     · by_cases ej : j = k
       · subst ej; rw [hx] at hjx; cases hjx; exact fun q => hb q.symm
       · exact hk2 j x (by omega) hjx
     · simp (disch := omega) only [go_sem]
     · simp (disch := omega) only [go_sem]
 · obtain rfl : k = l.length := by omega
   have e : decide (i ∈ l) = false := decide_eq_false fun hm => by
    obtain ⟨j, hj⟩ := List.mem_iff_getElem?.1 hm;exact hk2 j i (List.getElem?_eq_some_iff.1 hj).1 hj rfl
   simp (disch := omega) only [Y7, List.length_map, e, go_sem]
theorem Al5 (v : Vc) (r : Int) (q : Nat) : vE (Ck v (P3 r q)) = vE (A3 v r q) := K3 fun i hi => (Aa4 v r q i hi).symm
theorem Ge (v : Vc) (r : Int) (q : Nat) {h d} : FunOk Tryz.prog 20 [.vec 8 (vE v), .vec 2 [.i .i64 r, .i .u32 q]] h d (.vec 8 (vE (A3 v r q))) [] := by
 rw [← Al5]; exact Tf v r q
def Bw (l : List Evt) : Vc := l.foldl (fun v e => A3 v e.rep e.seq) (fun _ => 0)
theorem Jz (l : List Evt) (e : Evt) : Bw (l ++ [e]) = A3 (Bw l) e.rep e.seq := by simp [Bw]
def Y6 (f : Bool) (l : List Evt) (k : Nat) : FS := mk [(4, .pv (.i .i64 k)), (0, .pv (.sl f 21 (l.map Bo))), (3, .p 3 0), (2, .p 2 0)] [(3, some (.var (.vec 8 (vE (Bw (l.take k)))))), (2, some (.var (.vec 8 (vE fun _ => 0))))]
set_option maxHeartbeats 1000000 in
theorem Atj {x : SV} {f : Bool} {l : List Evt} {h d} (hx : Co h [x] = [.pv (.sl f 21 (l.map Bo))]) (hl : Bc [x] = true) (hn : l.length ≤ 1000) : FunOk Tryz.prog 28 [x] h d (.vec 8 (vE (Bw l))) [] := by
 refine Cn Ae fn28 (by simp) hl (Agh _) fun F => ?_;rw [hx];simp (disch := omega) only [ir28, go_sem];refine A1 Ae (Y6 f l) (fun k => k ≤ l.length) (fun k => l.length - k) 0 (by simp) (Am ?_ ?_) fun k hk => ?_
 · simp (disch := omega) only [go_sem]
 · simp (disch := omega) only [Bw, List.take_zero, List.foldl_nil, go_sem]
 by_cases hlt : k < l.length
 · have hx : l[k]? = some l[k] := List.getElem?_eq_getElem hlt;have he : (l.map Bo)[k]? = some (Bo l[k]) := by rw [List.getElem?_map, hx]; rfl
   have ht := Dg hx;generalize l[k] = e at *;have hs : Bw (l.take (k + 1)) = A3 (Bw (l.take k)) e.rep e.seq := by rw [ht, Jz]
   simp (disch := omega) only [Y6, List.length_map, he, Bf, go_sem];refine Aa (Ge _ _ _) ?_;simp (disch := omega) only [go_sem];refine Ad (k + 1) _ _ rfl (by omega) (by omega) ?_ ?_
   · simp (disch := omega) only [go_sem]
   · simp (disch := omega) only [hs, go_sem]
 · obtain rfl : k = l.length := by omega
   have htk : l.take l.length = l := List.take_length;simp (disch := omega) only [Y6, List.length_map, htk, go_sem]
def F7 (l : List Evt) (i : Bi) : Option Evt := l.find? fun e => decide (Aj e = i)
def Y9 (f : Bool) (l : List Evt) (i : Bi) (z : SV) (k : Nat) : FS := mk [(6, .pv (.i .i64 k)), (0, .pv (.sl f 21 (l.map Bo))), (3, .p 3 0), (4, .p 4 0)] [(3, some (.var (.vec 2 [.i .i64 i.1, .i .u32 i.2]))), (4, some (.var z))]
theorem Auz {l : List Evt} {i : Bi} {k : Nat} {e : Evt} (h : ∀ j x, j < k → l[j]? = some x → Aj x ≠ i) (hx : l[k]? = some e) (he : Aj e = i) : F7 l i = some e := by
 obtain ⟨hlt, hg⟩ := List.getElem?_eq_some_iff.1 hx;unfold F7;rw [List.find?_eq_some_iff_getElem];refine ⟨by simpa using he, k, hlt, hg, fun j hj => ?_⟩;simpa using h j _ hj (List.getElem?_eq_getElem (by omega))
theorem Akn {l : List Evt} {i : Bi} (h : ∀ j x, j < l.length → l[j]? = some x → Aj x ≠ i) : F7 l i = none := by
 unfold F7;rw [List.find?_eq_none];intro x hx;obtain ⟨j, hj⟩ := List.mem_iff_getElem?.1 hx;simpa using h j x (List.getElem?_eq_some_iff.1 hj).1 hj
set_option maxHeartbeats 1000000 in
theorem Ant {f : Bool} {l : List Evt} (i : Bi) {h d} (hn : l.length ≤ 1000) : FunOk Tryz.prog 120 [.pv (.sl f 21 (l.map Bo)), .vec 2 [.i .i64 i.1, .i .u32 i.2]] h d (match F7 l i with | some e => .tup [.vec 21 (Bo e), .pv (.b true)] | none => .tup [.vec 21 (Bo ⟨0, 0, fun _ => 0, 0, 0, 0, 0, 0, [], .nil, .nil, 0, [], 0⟩), .pv (.b false)]) [] := by
 refine Nx Ae fn120 (by simp) rfl (by split <;> rfl) fun F => ?_;simp (disch := omega) only [ir120, List.length_map, go_sem];refine A1 Ae (Y9 f l i (.agg [.pv (.i .i64 0), .pv (.i .u32 0), .vec 8 (vE fun _ => 0), .pv (.i .i64 0), .pv (.i .i64 0), .pv (.i .u32 0), .pv (.i .i64 0), .pv (.i .u32 0), .pv (.s []), .pv (.sl true 0 []), .pv (.sl true 0 []), .pv (.i .i64 0), .pv (.s []), .pv (.i .i64 0)])) (fun k => k ≤ l.length ∧ ∀ j x, j < k → l[j]? = some x → Aj x ≠ i) (fun k => l.length - k) 0 ⟨by simp, fun j x hj => absurd hj (Nat.not_lt_zero j)⟩ (Am ?_ ?_) fun k hk => ?_
 · simp (disch := omega) only [go_sem]
 · simp (disch := omega) only [go_sem]
 obtain ⟨hk1, hk2⟩ := hk;by_cases hlt : k < l.length
 · have hx : l[k]? = some l[k] := List.getElem?_eq_getElem hlt;have he : (l.map Bo)[k]? = some (Bo l[k]) := by rw [List.getElem?_map, hx]; rfl
   generalize l[k] = e at *;by_cases hb : Aj e = i
   · have hp := F8 hb;have hf := Auz hk2 hx hb;rw [hf]
     (try simp only [De, Dd, Dc, Db, Da, C9, C8, C7]); simp (disch := omega) only [Y9, List.length_map, he, Bf, Ai, hp, B0, go_sem]
     refine Br ?_;simp (disch := omega) only [go_sem]
   · have hp := F9 hb;simp (disch := omega) only [Y9, List.length_map, he, Bf, Ai, hp, go_sem];refine Ad (k + 1) _ _ rfl ⟨by omega, fun j x hj hjx => ?_⟩ (by omega) ?_ ?_
     · by_cases ej : j = k
       · subst ej; rw [hx] at hjx; cases hjx; exact hb
       · exact hk2 j x (by omega) hjx
     · simp (disch := omega) only [go_sem]
     · simp (disch := omega) only [go_sem]
 · obtain rfl : k = l.length := by omega
   rw [Akn hk2]
   (try simp only [De, Dd, Dc, Db, Da, C9, C8, C7]); simp (disch := omega) only [Y9, List.length_map, go_sem]
   refine Br ?_;simp (disch := omega) only [go_sem];exact Pn (Fz rfl (by simp [Ac]))
theorem Km (e : Evt) {h d} : FunOk Tryz.prog 97 [.vec 21 (Bo e)] h d (.pv (.b (decide (e.kind = 3 ∨ e.kind = 4 ∨ e.kind = 5)))) [] := by
 refine Au Ae fn97 (by simp) rfl rfl fun F => ?_;by_cases h3 : e.kind = 3
 · simp (disch := omega) only [ir97, Af, h3, go_sem]
 by_cases h4 : e.kind = 4
 · simp (disch := omega) only [ir97, Af, h4, go_sem]
 by_cases h5 : e.kind = 5
 · simp (disch := omega) only [ir97, Af, h5, go_sem]
 · simp (disch := omega) only [ir97, Af, h3, h4, h5, go_sem]
def Wy (s : List UInt8) (n : Int) : List UInt8 := if n < 0 ∨ 200 < n then [] else N6 s n.toNat
open Classical in
noncomputable def Ka (s : List UInt8) (n : Int) (t : List UInt8) : List UInt8 := if Dx s n t then [] else Ie s n.toNat t
noncomputable def Gb (e : Evt) (was : List UInt8) : List UInt8 := if e.kind = 5 then e.data else if e.kind = 4 then Wy was e.off else Ka was e.off e.data
noncomputable def Cr (l : List Evt) : Nat → Bi → List UInt8
 | 0, _ => []
 | n + 1, i => match F7 l i with
   | none => []
   | some e => Gb e (match e.base.l with | [] => [] | b :: _ => Cr l n b)
theorem Ac8 (s : List UInt8) (n : Nat) : (N6 s n).length = n := by
 unfold N6; split
 · simp; omega
 · simp [Qx]; omega
theorem U4 (s t : List UInt8) (n : Nat) : (Ie s n t).length = max s.length (n + t.length) := by
 unfold Ie; simp [Qx]; omega
theorem Aij {e : Evt} (he : e.data.length ≤ 1000) (was : List UInt8) : (Gb e was).length ≤ 1000 := by
 unfold Gb;split
 · exact he
 · split
   · unfold Wy; split
     · simp
     · rw [Ac8]; omega
   · unfold Ka; split
     · simp
     · rename_i h;unfold Dx at h;rw [U4]; omega
theorem Afr {l : List Evt} (h : ∀ e ∈ l, e.data.length ≤ 1000) (n : Nat) (i : Bi) : (Cr l n i).length ≤ 1000 := by
 cases n with
 | zero => simp [Cr]
 | succ n =>
   simp only [Cr];split
   · simp
   · rename_i e he;exact Aij (h e (List.mem_of_find?_eq_some he)) _
def Grd (l : List Evt) (rk : Evt → Nat) : Prop := ∀ e ∈ l, e.kind ≠ 5 → ∀ b t, e.base.l = b :: t → ∀ e', F7 l b = some e' → rk e' < rk e
theorem Zu {l : List Evt} {i : Bi} (hn : l.length ≤ 1000) (hf : F7 l i = none) {x : SV} {f : Bool} {h d} (hx : Co h [x, .vec 2 [.i .i64 i.1, .i .u32 i.2]] = [.pv (.sl f 21 (l.map Bo)), .vec 2 [.i .i64 i.1, .i .u32 i.2]]) (hl : Bc [x, .vec 2 [.i .i64 i.1, .i .u32 i.2]] = true) :
 FunOk Tryz.prog 98 [x, .vec 2 [.i .i64 i.1, .i .u32 i.2]] h d (.pv (.s [])) [] := by
 refine Cn Ae fn98 (by simp) hl rfl fun F => ?_;rw [hx];simp (disch := omega) only [ir98, go_sem];refine Aa (Ant (l := l) i hn) ?_;rw [hf]
 (try simp only [De, Dd, Dc, Db, Da, C9, C8, C7]); simp (disch := omega) only [Ac, go_sem]
set_option maxHeartbeats 4000000 in
theorem Ab7 {l : List Evt} {rk : Evt → Nat} (hg : Grd l rk) (hn : l.length ≤ 1000) (hev : ∀ e ∈ l, ev e ∧ e.data.length ≤ 1000) : ∀ (n : Nat) (i : Bi), (∀ e, F7 l i = some e → rk e < n) → ∀ (x : SV) (f : Bool) (h : Nat → Option Blk) (d : Nat), Co h [x, .vec 2 [.i .i64 i.1, .i .u32 i.2]] = [.pv (.sl f 21 (l.map Bo)), .vec 2 [.i .i64 i.1, .i .u32 i.2]] → Bc [x, .vec 2 [.i .i64 i.1, .i .u32 i.2]] = true →
 FunOk Tryz.prog 98 [x, .vec 2 [.i .i64 i.1, .i .u32 i.2]] h d (.pv (.s (Cr l n i))) []
 | 0, i, hr => by
   intro x f h d hx hl;have hf : F7 l i = none := by
    cases hq : F7 l i with
    | none => rfl
    | some e => exact absurd (hr e hq) (Nat.not_lt_zero _)
   exact Zu hn hf hx hl
 | n + 1, i, hr => by
   intro x f h d hx hl;refine Cn Ae fn98 (by simp) hl rfl fun F => ?_;rw [hx];simp (disch := omega) only [ir98, go_sem];refine Aa (Ant (l := l) i hn) ?_;cases hf : F7 l i with
   | none =>
     have eB : Cr l (n + 1) i = [] := by simp only [Cr, hf]
     (try simp only [De, Dd, Dc, Db, Da, C9, C8, C7]); simp (disch := omega) only [eB, Ac, go_sem]
   | some e =>
     have hm := List.mem_of_find?_eq_some hf;obtain ⟨he, hd⟩ := hev e hm;have hpv : e.base.pv = .sl e.base.f e.base.z (e.base.l.map Ek) := rfl;have hel := Ac e;by_cases h5 : e.kind = 5
     · have eB : Cr l (n + 1) i = e.data := by simp only [Cr, hf, Gb, if_pos h5]
       (try simp only [De, Dd, Dc, Db, Da, C9, C8, C7]); simp (disch := omega) only [hel, Af, h5, G2, eB, go_sem]
     cases hbl : e.base.l with
     | nil =>
       obtain ⟨was, hwas⟩ : ∃ was : List UInt8, was = [] := ⟨_, rfl⟩
       have hwl : was.length ≤ 1000 := by rw [hwas]; simp
       have eB : Cr l (n + 1) i = Gb e was := by simp only [Cr, hf, hbl]; rw [hwas]
       (try simp only [De, Dd, Dc, Db, Da, C9, C8, C7]); simp (disch := omega) only [hel, Af, h5, Gj, hpv, hbl, List.map_nil, ← hwas, go_sem]
       by_cases h4 : e.kind = 4
       · have eS : Gb e was = Wy was e.off := by unfold Gb; rw [if_neg h5, if_pos h4]
         (try simp only [De, Dd, Dc, Db, Da, C9, C8, C7]); simp (disch := omega) only [Af, h4, It, go_sem]
         refine Aa (An0 was e.off hwl) ?_;by_cases hb : e.off < 0 ∨ 200 < e.off
         · have ec := I2 (data := was) hb;have ew : Wy was e.off = [] := if_pos hb;simp (disch := omega) only [ec, eB, eS, ew, go_sem]
         · have ec := Ky (data := was) hb;have ew : Wy was e.off = N6 was e.off.toNat := if_neg hb;simp (disch := omega) only [ec, eB, eS, ew, go_sem]
       · have eS : Gb e was = Ka was e.off e.data := by unfold Gb; rw [if_neg h5, if_neg h4]
         (try simp only [De, Dd, Dc, Db, Da, C9, C8, C7]); simp (disch := omega) only [Af, h4, It, G2, go_sem]
         refine Aa (Ab2 was e.data e.off hd) ?_;by_cases hb : Dx was e.off e.data
         · have ec := Eh hb;have ew : Ka was e.off e.data = [] := if_pos hb;simp (disch := omega) only [ec, eB, eS, ew, go_sem]
         · have ec := Iy hb;have ew : Ka was e.off e.data = Ie was e.off.toNat e.data := if_neg hb;simp (disch := omega) only [ec, eB, eS, ew, go_sem]
     | cons b t =>
       have hok : e.base.z = 2 := he.2.1.resolve_left (by rw [hbl]; simp);have h0 : (List.map Ek (b :: t))[0]? = some (Ek b) := rfl;have hpos : (0 : Int) < ((t.length : Int) + 1) := by omega
       have hrk := hg e hm h5 b t hbl;have hre := hr e hf
       (try simp only [De, Dd, Dc, Db, Da, C9, C8, C7]); simp (disch := omega) only [hel, Af, h5, Gj, hpv, hbl, hok, List.length_map, h0, Ez, go_sem]
       refine Aa (Ab7 hg hn hev n b (fun e' he' => by have := hrk e' he'; omega) _ f _ _ rfl rfl) ?_;have eB : Cr l (n + 1) i = Gb e (Cr l n b) := by simp only [Cr, hf, hbl]
       have hwl := Afr (fun e he => (hev e he).2) n b (l := l);generalize Cr l n b = was at *;simp (disch := omega) only [go_sem];by_cases h4 : e.kind = 4
       · have eS : Gb e was = Wy was e.off := by unfold Gb; rw [if_neg h5, if_pos h4]
         (try simp only [De, Dd, Dc, Db, Da, C9, C8, C7]); simp (disch := omega) only [Af, h4, It, go_sem]
         refine Aa (An0 was e.off hwl) ?_;by_cases hb : e.off < 0 ∨ 200 < e.off
         · have ec := I2 (data := was) hb;have ew : Wy was e.off = [] := if_pos hb;simp (disch := omega) only [ec, eB, eS, ew, go_sem]
         · have ec := Ky (data := was) hb;have ew : Wy was e.off = N6 was e.off.toNat := if_neg hb;simp (disch := omega) only [ec, eB, eS, ew, go_sem]
       · have eS : Gb e was = Ka was e.off e.data := by unfold Gb; rw [if_neg h5, if_neg h4]
         (try simp only [De, Dd, Dc, Db, Da, C9, C8, C7]); simp (disch := omega) only [Af, h4, It, G2, go_sem]
         refine Aa (Ab2 was e.data e.off hd) ?_;by_cases hb : Dx was e.off e.data
         · have ec := Eh hb;have ew : Ka was e.off e.data = [] := if_pos hb;simp (disch := omega) only [ec, eB, eS, ew, go_sem]
         · have ec := Iy hb;have ew : Ka was e.off e.data = Ie was e.off.toNat e.data := if_neg hb;simp (disch := omega) only [ec, eB, eS, ew, go_sem]
def mkB (e : Evt) : Bool := decide (e.kind = 1 ∨ e.kind = 2 ∨ e.kind = 7)
def Er (e : Evt) : Bi := if e.kind = 7 then Aw e else Aj e
def Hb (f : Evt) (obj id : Bi) : Bool := decide (f.kind = 6 ∨ f.kind = 7) && (decide (Aw f = obj) && decide (id ∈ f.gone.l))
def byG (l : List Evt) (obj id : Bi) : Vc := l.foldl (fun g f => if Hb f obj id = true then A3 g f.rep f.seq else g) fun _ => 0
theorem Qt (l : List Evt) (f : Evt) (obj id : Bi) : byG (l ++ [f]) obj id = if Hb f obj id = true then A3 (byG l obj id) f.rep f.seq else byG l obj id := by simp [byG]
def Cu (m : List Evt) (e : Evt) : Ent := ⟨Aj e, G6 e, e.name, Er e, byG m (Er e) (Aj e)⟩
def Cm (l m : List Evt) : List Ent := m.foldl (fun out e => if mkB e = true then Fd out (Cu l e) false else out) []
theorem O9 (l m : List Evt) (e : Evt) : Cm l (m ++ [e]) = if mkB e = true then Fd (Cm l m) (Cu l e) false else Cm l m := by simp [Cm]
theorem Ra : ∀ (l : List Ent) (x : Ent) (b : Bool), (Fd l x b).length ≤ l.length + 1
 | [], x, b => by unfold Fd; split <;> simp
 | y :: l, x, b => by
   unfold Fd;split
   · have := Ra l x true; simp only [List.length_cons]; omega
   · split
     · have : Fd l x true = Fd l x true := rfl;have h2 : ∀ l : List Ent, (Fd l x true).length ≤ l.length := fun l => by
        induction l with
        | nil => simp [Fd]
        | cons z l ih => unfold Fd; split <;> simp <;> omega
       have := h2 l;simp only [List.length_cons]; omega
     · have := Ra l x b; simp only [List.length_cons]; omega
theorem R0 (l : List Evt) : ∀ (n : Nat) (m : List Evt), m.length = n → (Cm l m).length ≤ n
 | 0, m, h => by obtain rfl := List.eq_nil_of_length_eq_zero h; simp [Cm]
 | n + 1, m, h => by
   have hne : m ≠ [] := fun e => by subst e; simp at h
   have e1 := (List.dropLast_concat_getLast hne).symm;have h1 := R0 l n m.dropLast (by simp [h]);rw [e1, O9];split
   · have := Ra (Cm l m.dropLast) (Cu l (m.getLast hne)) false; omega
   · omega
def W6 (f : Bool) (l : List Evt) (k : Nat) : FS := mk [(4, .pv (.i .i64 k)), (3, .os 40), (0, .pv (.sl f 21 (l.map Bo)))] [(40, some (.row 15 ((Cm l (l.take k)).map Bh)))]
def Eg (f : Bool) (l : List Evt) (k : Nat) (e : Evt) (j : Nat) : FS := mk [(7, .pv (.i .i64 j)), (4, .pv (.i .i64 k)), (3, .os 40), (6, .p 6 0), (0, .pv (.sl f 21 (l.map Bo)))] [(6, some (.var (.vec 15 (Bh (Cu (l.take j) e))))), (40, some (.row 15 ((Cm l (l.take k)).map Bh)))]
set_option maxHeartbeats 8000000 in
theorem Ai9 {x : SV} {f : Bool} {l : List Evt} {h d} (hx : Co h [x] = [.pv (.sl f 21 (l.map Bo))]) (hl : Bc [x] = true) (hn : l.length ≤ 1000) (hev : ∀ e ∈ l, ev e) : FunOk Tryz.prog 29 [x] h d (.pv (.sl false 15 ((Cm l l).map Bh))) [] := by
 refine X3 Ae fn29 (by simp) hl (I1 _) fun F => ?_;rw [hx];simp (disch := omega) only [ir29, go_sem];refine A1 Ae (W6 f l) (fun k => k ≤ l.length) (fun k => l.length - k) 0 (by simp) (T5 3 40 15 rfl (by omega) (Am ?_ ?_)) fun k hk => ?_
 · simp (disch := omega) only [go_sem]
 · simp (disch := omega) only [Cm, List.take_zero, List.foldl_nil, List.map_nil, go_sem]
 by_cases hlt : k < l.length
 · have hx : l[k]? = some l[k] := List.getElem?_eq_getElem hlt;have he : (l.map Bo)[k]? = some (Bo l[k]) := by rw [List.getElem?_map, hx]; rfl
   have ht := Dg hx;have hel := Ac l[k];have hsn := O9 l (l.take k) l[k];rw [← ht] at hsn;generalize l[k] = e at *;have hlen := R0 l _ (l.take k) rfl;have hlt' : (l.take k).length ≤ 1000 := by simp; omega
   by_cases hmk : mkB e = true;rotate_left
   · rw [if_neg hmk] at hsn;have hk3 : ¬ (e.kind = 1 ∨ e.kind = 2 ∨ e.kind = 7) := by simpa [mkB] using hmk
     have n1 : ¬ e.kind = 1 := by omega
     have n2 : ¬ e.kind = 2 := by omega
     have n7 : ¬ e.kind = 7 := by omega
     simp (disch := omega) only [W6, List.length_map, he, B0, hel, Af, n1, n2, n7, go_sem];refine Ad (k + 1) _ _ rfl (by omega) (by omega) ?_ ?_
     · simp (disch := omega) only [go_sem]
     · simp (disch := omega) only [hsn, go_sem]
   rw [if_pos hmk] at hsn;have hk3 : e.kind = 1 ∨ e.kind = 2 ∨ e.kind = 7 := by simpa [mkB] using hmk
   rcases hk3 with h1 | h2 | h7
   · have hoi : Er e = Aj e := if_neg (by omega);simp (disch := omega) only [W6, List.length_map, he, B0, hel, Af, h1, Bf, C4, Ea, go_sem];refine A1 Ae (Eg f l k e) (fun j => j ≤ l.length) (fun j => l.length - j) 0 (by simp) (Am ?_ ?_) fun j hj => ?_
     · simp (disch := omega) only [go_sem]
     · simp (disch := omega) only [Cu, byG, List.take_zero, List.foldl_nil, hoi, go_sem];exact Fz rfl (Dk _)
     by_cases hjl : j < l.length
     · have hx2 : l[j]? = some l[j] := List.getElem?_eq_getElem hjl;have he2 : (l.map Bo)[j]? = some (Bo l[j]) := by rw [List.getElem?_map, hx2]; rfl
       have ht2 := Dg hx2;have hevj := hev _ (List.getElem_mem hjl);generalize l[j] = g at *;have hB : Cu (l.take (j + 1)) e = if Hb g (Er e) (Aj e) = true then { Cu (l.take j) e with gone := A3 (Cu (l.take j) e).gone g.rep g.seq } else Cu (l.take j) e := by
        unfold Cu; rw [ht2, Qt]; split <;> rfl
       have hob : (Cu (l.take j) e).obj = Er e := rfl;have hid : (Cu (l.take j) e).id = Aj e := rfl;generalize hX : Cu (l.take j) e = X at *;by_cases hg : g.kind = 6 ∨ g.kind = 7;rotate_left
       · have g6 : ¬ g.kind = 6 := fun q => hg (.inl q);have g7 : ¬ g.kind = 7 := fun q => hg (.inr q);have hgo : ¬ Hb g (Er e) (Aj e) = true := by unfold Hb; simp [hg]
         rw [if_neg hgo] at hB;simp (disch := omega) only [Eg, hX, List.length_map, he2, Af, g6, g7, go_sem];refine Ad (j + 1) _ _ rfl (by omega) (by omega) ?_ ?_
         · simp (disch := omega) only [go_sem]
         · simp (disch := omega) only [hB, go_sem]
       have hg' := hg;rcases hg with hg6 | hg7
       · skip
         by_cases ho : Aw g = X.obj;rotate_left
         · have hp := F9 ho;have hgo : ¬ Hb g (Er e) (Aj e) = true := by
            rw [hob] at ho; unfold Hb; simp [ho]
           rw [if_neg hgo] at hB;simp (disch := omega) only [Eg, hX, List.length_map, he2, Af, hg6, Ba, Cv, Ai, Bt, hp, go_sem];refine Ad (j + 1) _ _ rfl (by omega) (by omega) ?_ ?_
           · simp (disch := omega) only [go_sem]
           · simp (disch := omega) only [hB, go_sem]
         have hp := F8 ho;have hpv : g.gone.pv = .sl g.gone.f g.gone.z (g.gone.l.map Ek) := rfl;simp (disch := omega) only [Eg, hX, List.length_map, he2, Af, hg6, Ba, Cv, Ai, Bt, hp, Gk, C5, go_sem];refine Aa (Oy g.gone X.id hevj.1 hevj.2.2.1) ?_;by_cases hin : X.id ∈ g.gone.l
         · have hgo : Hb g (Er e) (Aj e) = true := by
            rw [hob] at ho; rw [hid] at hin; unfold Hb; simp [hg', ho, hin]
           rw [if_pos hgo] at hB;have hsp := Gw X (A3 X.gone g.rep g.seq);have hvl := Bl (A3 X.gone g.rep g.seq);simp (disch := omega) only [hin, H3, List.length_map, he2, Bf, go_sem];refine Aa (Ge _ _ _) ?_;simp (disch := omega) only [hsp, hvl, go_sem];refine Ad (j + 1) _ _ rfl (by omega) (by omega) ?_ ?_
           · simp (disch := omega) only [go_sem]
           · simp (disch := omega) only [hB, go_sem]
         · have hgo : ¬ Hb g (Er e) (Aj e) = true := by
            rw [hid] at hin; unfold Hb; simp [hin]
           rw [if_neg hgo] at hB;simp (disch := omega) only [hin, go_sem];refine Ad (j + 1) _ _ rfl (by omega) (by omega) ?_ ?_
           · simp (disch := omega) only [go_sem]
           · simp (disch := omega) only [hB, go_sem]
       · have g6 : ¬ g.kind = 6 := by omega
         by_cases ho : Aw g = X.obj;rotate_left
         · have hp := F9 ho;have hgo : ¬ Hb g (Er e) (Aj e) = true := by
            rw [hob] at ho; unfold Hb; simp [ho]
           rw [if_neg hgo] at hB;simp (disch := omega) only [Eg, hX, List.length_map, he2, Af, g6, hg7, Ba, Cv, Ai, Bt, hp, go_sem];refine Ad (j + 1) _ _ rfl (by omega) (by omega) ?_ ?_
           · simp (disch := omega) only [go_sem]
           · simp (disch := omega) only [hB, go_sem]
         have hp := F8 ho;have hpv : g.gone.pv = .sl g.gone.f g.gone.z (g.gone.l.map Ek) := rfl;simp (disch := omega) only [Eg, hX, List.length_map, he2, Af, g6, hg7, Ba, Cv, Ai, Bt, hp, Gk, C5, go_sem];refine Aa (Oy g.gone X.id hevj.1 hevj.2.2.1) ?_;by_cases hin : X.id ∈ g.gone.l
         · have hgo : Hb g (Er e) (Aj e) = true := by
            rw [hob] at ho; rw [hid] at hin; unfold Hb; simp [hg', ho, hin]
           rw [if_pos hgo] at hB;have hsp := Gw X (A3 X.gone g.rep g.seq);have hvl := Bl (A3 X.gone g.rep g.seq);simp (disch := omega) only [hin, H3, List.length_map, he2, Bf, go_sem];refine Aa (Ge _ _ _) ?_;simp (disch := omega) only [hsp, hvl, go_sem];refine Ad (j + 1) _ _ rfl (by omega) (by omega) ?_ ?_
           · simp (disch := omega) only [go_sem]
           · simp (disch := omega) only [hB, go_sem]
         · have hgo : ¬ Hb g (Er e) (Aj e) = true := by
            rw [hid] at hin; unfold Hb; simp [hin]
           rw [if_neg hgo] at hB;simp (disch := omega) only [hin, go_sem];refine Ad (j + 1) _ _ rfl (by omega) (by omega) ?_ ?_
           · simp (disch := omega) only [go_sem]
           · simp (disch := omega) only [hB, go_sem]
     · obtain rfl : j = l.length := by omega
       have htk : l.take l.length = l := List.take_length;simp (disch := omega) only [Eg, List.length_map, htk, E0, go_sem];refine Aa (Zp (l := Cm l (l.take k)) (Cu l e) rfl rfl (by omega)) ?_;simp (disch := omega) only [go_sem];refine ⟨k + 1, by omega, by omega, Gm 40 rfl (Ew 99 40 (by decide) rfl (Am ?_ ?_))⟩
       · simp (disch := omega) only [go_sem]
       · simp (disch := omega) only [hsn, go_sem]
   · have hoi : Er e = Aj e := if_neg (by omega);have n1 : ¬ e.kind = 1 := by omega
     simp (disch := omega) only [W6, List.length_map, he, B0, hel, Af, n1, h2, Bf, C4, Ea, go_sem];refine A1 Ae (Eg f l k e) (fun j => j ≤ l.length) (fun j => l.length - j) 0 (by simp) (Am ?_ ?_) fun j hj => ?_
     · simp (disch := omega) only [go_sem]
     · simp (disch := omega) only [Cu, byG, List.take_zero, List.foldl_nil, hoi, go_sem];exact Fz rfl (Dk _)
     by_cases hjl : j < l.length
     · have hx2 : l[j]? = some l[j] := List.getElem?_eq_getElem hjl;have he2 : (l.map Bo)[j]? = some (Bo l[j]) := by rw [List.getElem?_map, hx2]; rfl
       have ht2 := Dg hx2;have hevj := hev _ (List.getElem_mem hjl);generalize l[j] = g at *;have hB : Cu (l.take (j + 1)) e = if Hb g (Er e) (Aj e) = true then { Cu (l.take j) e with gone := A3 (Cu (l.take j) e).gone g.rep g.seq } else Cu (l.take j) e := by
        unfold Cu; rw [ht2, Qt]; split <;> rfl
       have hob : (Cu (l.take j) e).obj = Er e := rfl;have hid : (Cu (l.take j) e).id = Aj e := rfl;generalize hX : Cu (l.take j) e = X at *;by_cases hg : g.kind = 6 ∨ g.kind = 7;rotate_left
       · have g6 : ¬ g.kind = 6 := fun q => hg (.inl q);have g7 : ¬ g.kind = 7 := fun q => hg (.inr q);have hgo : ¬ Hb g (Er e) (Aj e) = true := by unfold Hb; simp [hg]
         rw [if_neg hgo] at hB;simp (disch := omega) only [Eg, hX, List.length_map, he2, Af, g6, g7, go_sem];refine Ad (j + 1) _ _ rfl (by omega) (by omega) ?_ ?_
         · simp (disch := omega) only [go_sem]
         · simp (disch := omega) only [hB, go_sem]
       have hg' := hg;rcases hg with hg6 | hg7
       · skip
         by_cases ho : Aw g = X.obj;rotate_left
         · have hp := F9 ho;have hgo : ¬ Hb g (Er e) (Aj e) = true := by
            rw [hob] at ho; unfold Hb; simp [ho]
           rw [if_neg hgo] at hB;simp (disch := omega) only [Eg, hX, List.length_map, he2, Af, hg6, Ba, Cv, Ai, Bt, hp, go_sem];refine Ad (j + 1) _ _ rfl (by omega) (by omega) ?_ ?_
           · simp (disch := omega) only [go_sem]
           · simp (disch := omega) only [hB, go_sem]
         have hp := F8 ho;have hpv : g.gone.pv = .sl g.gone.f g.gone.z (g.gone.l.map Ek) := rfl;simp (disch := omega) only [Eg, hX, List.length_map, he2, Af, hg6, Ba, Cv, Ai, Bt, hp, Gk, C5, go_sem];refine Aa (Oy g.gone X.id hevj.1 hevj.2.2.1) ?_;by_cases hin : X.id ∈ g.gone.l
         · have hgo : Hb g (Er e) (Aj e) = true := by
            rw [hob] at ho; rw [hid] at hin; unfold Hb; simp [hg', ho, hin]
           rw [if_pos hgo] at hB;have hsp := Gw X (A3 X.gone g.rep g.seq);have hvl := Bl (A3 X.gone g.rep g.seq);simp (disch := omega) only [hin, H3, List.length_map, he2, Bf, go_sem];refine Aa (Ge _ _ _) ?_;simp (disch := omega) only [hsp, hvl, go_sem];refine Ad (j + 1) _ _ rfl (by omega) (by omega) ?_ ?_
           · simp (disch := omega) only [go_sem]
           · simp (disch := omega) only [hB, go_sem]
         · have hgo : ¬ Hb g (Er e) (Aj e) = true := by
            rw [hid] at hin; unfold Hb; simp [hin]
           rw [if_neg hgo] at hB;simp (disch := omega) only [hin, go_sem];refine Ad (j + 1) _ _ rfl (by omega) (by omega) ?_ ?_
           · simp (disch := omega) only [go_sem]
           · simp (disch := omega) only [hB, go_sem]
       · have g6 : ¬ g.kind = 6 := by omega
         by_cases ho : Aw g = X.obj;rotate_left
         · have hp := F9 ho;have hgo : ¬ Hb g (Er e) (Aj e) = true := by
            rw [hob] at ho; unfold Hb; simp [ho]
           rw [if_neg hgo] at hB;simp (disch := omega) only [Eg, hX, List.length_map, he2, Af, g6, hg7, Ba, Cv, Ai, Bt, hp, go_sem];refine Ad (j + 1) _ _ rfl (by omega) (by omega) ?_ ?_
           · simp (disch := omega) only [go_sem]
           · simp (disch := omega) only [hB, go_sem]
         have hp := F8 ho;have hpv : g.gone.pv = .sl g.gone.f g.gone.z (g.gone.l.map Ek) := rfl;simp (disch := omega) only [Eg, hX, List.length_map, he2, Af, g6, hg7, Ba, Cv, Ai, Bt, hp, Gk, C5, go_sem];refine Aa (Oy g.gone X.id hevj.1 hevj.2.2.1) ?_;by_cases hin : X.id ∈ g.gone.l
         · have hgo : Hb g (Er e) (Aj e) = true := by
            rw [hob] at ho; rw [hid] at hin; unfold Hb; simp [hg', ho, hin]
           rw [if_pos hgo] at hB;have hsp := Gw X (A3 X.gone g.rep g.seq);have hvl := Bl (A3 X.gone g.rep g.seq);simp (disch := omega) only [hin, H3, List.length_map, he2, Bf, go_sem];refine Aa (Ge _ _ _) ?_;simp (disch := omega) only [hsp, hvl, go_sem];refine Ad (j + 1) _ _ rfl (by omega) (by omega) ?_ ?_
           · simp (disch := omega) only [go_sem]
           · simp (disch := omega) only [hB, go_sem]
         · have hgo : ¬ Hb g (Er e) (Aj e) = true := by
            rw [hid] at hin; unfold Hb; simp [hin]
           rw [if_neg hgo] at hB;simp (disch := omega) only [hin, go_sem];refine Ad (j + 1) _ _ rfl (by omega) (by omega) ?_ ?_
           · simp (disch := omega) only [go_sem]
           · simp (disch := omega) only [hB, go_sem]
     · obtain rfl : j = l.length := by omega
       have htk : l.take l.length = l := List.take_length;simp (disch := omega) only [Eg, List.length_map, htk, E0, go_sem];refine Aa (Zp (l := Cm l (l.take k)) (Cu l e) rfl rfl (by omega)) ?_;simp (disch := omega) only [go_sem];refine ⟨k + 1, by omega, by omega, Gm 40 rfl (Ew 99 40 (by decide) rfl (Am ?_ ?_))⟩
       · simp (disch := omega) only [go_sem]
       · simp (disch := omega) only [hsn, go_sem]
   · have hoi : Er e = Aw e := if_pos h7;have n1 : ¬ e.kind = 1 := by omega
     have n2 : ¬ e.kind = 2 := by omega
     simp (disch := omega) only [W6, List.length_map, he, B0, hel, Af, n1, n2, h7, Bf, C4, Ea, Ba, go_sem];refine A1 Ae (Eg f l k e) (fun j => j ≤ l.length) (fun j => l.length - j) 0 (by simp) (Am ?_ ?_) fun j hj => ?_
     · simp (disch := omega) only [go_sem]
     · simp (disch := omega) only [Cu, byG, List.take_zero, List.foldl_nil, hoi, go_sem];exact Fz rfl (Dk _)
     by_cases hjl : j < l.length
     · have hx2 : l[j]? = some l[j] := List.getElem?_eq_getElem hjl;have he2 : (l.map Bo)[j]? = some (Bo l[j]) := by rw [List.getElem?_map, hx2]; rfl
       have ht2 := Dg hx2;have hevj := hev _ (List.getElem_mem hjl);generalize l[j] = g at *;have hB : Cu (l.take (j + 1)) e = if Hb g (Er e) (Aj e) = true then { Cu (l.take j) e with gone := A3 (Cu (l.take j) e).gone g.rep g.seq } else Cu (l.take j) e := by
        unfold Cu; rw [ht2, Qt]; split <;> rfl
       have hob : (Cu (l.take j) e).obj = Er e := rfl;have hid : (Cu (l.take j) e).id = Aj e := rfl;generalize hX : Cu (l.take j) e = X at *;by_cases hg : g.kind = 6 ∨ g.kind = 7;rotate_left
       · have g6 : ¬ g.kind = 6 := fun q => hg (.inl q);have g7 : ¬ g.kind = 7 := fun q => hg (.inr q);have hgo : ¬ Hb g (Er e) (Aj e) = true := by unfold Hb; simp [hg]
         rw [if_neg hgo] at hB;simp (disch := omega) only [Eg, hX, List.length_map, he2, Af, g6, g7, go_sem];refine Ad (j + 1) _ _ rfl (by omega) (by omega) ?_ ?_
         · simp (disch := omega) only [go_sem]
         · simp (disch := omega) only [hB, go_sem]
       have hg' := hg;rcases hg with hg6 | hg7
       · skip
         by_cases ho : Aw g = X.obj;rotate_left
         · have hp := F9 ho;have hgo : ¬ Hb g (Er e) (Aj e) = true := by
            rw [hob] at ho; unfold Hb; simp [ho]
           rw [if_neg hgo] at hB;simp (disch := omega) only [Eg, hX, List.length_map, he2, Af, hg6, Ba, Cv, Ai, Bt, hp, go_sem];refine Ad (j + 1) _ _ rfl (by omega) (by omega) ?_ ?_
           · simp (disch := omega) only [go_sem]
           · simp (disch := omega) only [hB, go_sem]
         have hp := F8 ho;have hpv : g.gone.pv = .sl g.gone.f g.gone.z (g.gone.l.map Ek) := rfl;simp (disch := omega) only [Eg, hX, List.length_map, he2, Af, hg6, Ba, Cv, Ai, Bt, hp, Gk, C5, go_sem];refine Aa (Oy g.gone X.id hevj.1 hevj.2.2.1) ?_;by_cases hin : X.id ∈ g.gone.l
         · have hgo : Hb g (Er e) (Aj e) = true := by
            rw [hob] at ho; rw [hid] at hin; unfold Hb; simp [hg', ho, hin]
           rw [if_pos hgo] at hB;have hsp := Gw X (A3 X.gone g.rep g.seq);have hvl := Bl (A3 X.gone g.rep g.seq);simp (disch := omega) only [hin, H3, List.length_map, he2, Bf, go_sem];refine Aa (Ge _ _ _) ?_;simp (disch := omega) only [hsp, hvl, go_sem];refine Ad (j + 1) _ _ rfl (by omega) (by omega) ?_ ?_
           · simp (disch := omega) only [go_sem]
           · simp (disch := omega) only [hB, go_sem]
         · have hgo : ¬ Hb g (Er e) (Aj e) = true := by
            rw [hid] at hin; unfold Hb; simp [hin]
           rw [if_neg hgo] at hB;simp (disch := omega) only [hin, go_sem];refine Ad (j + 1) _ _ rfl (by omega) (by omega) ?_ ?_
           · simp (disch := omega) only [go_sem]
           · simp (disch := omega) only [hB, go_sem]
       · have g6 : ¬ g.kind = 6 := by omega
         by_cases ho : Aw g = X.obj;rotate_left
         · have hp := F9 ho;have hgo : ¬ Hb g (Er e) (Aj e) = true := by
            rw [hob] at ho; unfold Hb; simp [ho]
           rw [if_neg hgo] at hB;simp (disch := omega) only [Eg, hX, List.length_map, he2, Af, g6, hg7, Ba, Cv, Ai, Bt, hp, go_sem];refine Ad (j + 1) _ _ rfl (by omega) (by omega) ?_ ?_
           · simp (disch := omega) only [go_sem]
           · simp (disch := omega) only [hB, go_sem]
         have hp := F8 ho;have hpv : g.gone.pv = .sl g.gone.f g.gone.z (g.gone.l.map Ek) := rfl;simp (disch := omega) only [Eg, hX, List.length_map, he2, Af, g6, hg7, Ba, Cv, Ai, Bt, hp, Gk, C5, go_sem];refine Aa (Oy g.gone X.id hevj.1 hevj.2.2.1) ?_;by_cases hin : X.id ∈ g.gone.l
         · have hgo : Hb g (Er e) (Aj e) = true := by
            rw [hob] at ho; rw [hid] at hin; unfold Hb; simp [hg', ho, hin]
           rw [if_pos hgo] at hB;have hsp := Gw X (A3 X.gone g.rep g.seq);have hvl := Bl (A3 X.gone g.rep g.seq);simp (disch := omega) only [hin, H3, List.length_map, he2, Bf, go_sem];refine Aa (Ge _ _ _) ?_;simp (disch := omega) only [hsp, hvl, go_sem];refine Ad (j + 1) _ _ rfl (by omega) (by omega) ?_ ?_
           · simp (disch := omega) only [go_sem]
           · simp (disch := omega) only [hB, go_sem]
         · have hgo : ¬ Hb g (Er e) (Aj e) = true := by
            rw [hid] at hin; unfold Hb; simp [hin]
           rw [if_neg hgo] at hB;simp (disch := omega) only [hin, go_sem];refine Ad (j + 1) _ _ rfl (by omega) (by omega) ?_ ?_
           · simp (disch := omega) only [go_sem]
           · simp (disch := omega) only [hB, go_sem]
     · obtain rfl : j = l.length := by omega
       have htk : l.take l.length = l := List.take_length;simp (disch := omega) only [Eg, List.length_map, htk, E0, go_sem];refine Aa (Zp (l := Cm l (l.take k)) (Cu l e) rfl rfl (by omega)) ?_;simp (disch := omega) only [go_sem];refine ⟨k + 1, by omega, by omega, Gm 40 rfl (Ew 99 40 (by decide) rfl (Am ?_ ?_))⟩
       · simp (disch := omega) only [go_sem]
       · simp (disch := omega) only [hsn, go_sem]
 · obtain rfl : k = l.length := by omega
   have htk : l.take l.length = l := List.take_length;simp (disch := omega) only [W6, List.length_map, htk, go_sem]
theorem Ayw {x y : SV} {f g : Bool} {l : List Ver} {bs : List Bi} {v : Ver} {h d} (hx : Co h [x, y, .vec 11 (A4 v)] = [.pv (.sl f 11 (l.map A4)), .pv (.sl g 2 (bs.map Ek)), .vec 11 (A4 v)]) (hl : Bc [x, y, .vec 11 (A4 v)] = true)
 (hs : Ci l) (hn : l.length ≤ 900) (hbn : bs.length ≤ 900) (hm : ¬ Cx l bs) (ho : Bm l v.rep v.seq = none) :
 FunOk Tryz.prog 99 [x, y, .vec 11 (A4 v)] h d (.tup [.os d, .pv (.i .i64 0)]) [.new d (.row 11 ((Fg l bs v).map A4))] := by
 refine Aps Ae fn99 (by simp) hl (.inr (W3 _)) rfl fun F => ?_;rw [hx];exact Ars hs hn hbn (fun h => absurd h hm) (fun _ h => by rw [ho] at h; cases h) (fun _ _ g n hg => ⟨n, rfl, hg⟩)
def Ok (e : Evt) : Bool := decide (e.kind = 3 ∨ e.kind = 4 ∨ e.kind = 5)
def Wp (g : Evt) (obj id : Bi) : Bool := Ok g && (decide (Aw g = obj) && decide (id ∈ g.base.l))
def gvG (l : List Evt) (obj id : Bi) : Vc := l.foldl (fun a g => if Wp g obj id = true then A3 a g.rep g.seq else a) fun _ => 0
theorem Acw (l : List Evt) (g : Evt) (obj id : Bi) : gvG (l ++ [g]) obj id = if Wp g obj id = true then A3 (gvG l obj id) g.rep g.seq else gvG l obj id := by simp [gvG]
noncomputable def Fi (l m : List Evt) (e : Evt) : Ver := ⟨e.rep, e.seq, Cr l l.length (Aj e), gvG m (Aw e) (Aj e)⟩
noncomputable def Cj (l : List Evt) (obj : Bi) (m : List Evt) : List Ver := m.foldl (fun out e => if Ok e = true ∧ Aw e = obj then Fg out [] (Fi l l e) else out) []
theorem Om (l : List Evt) (obj : Bi) (m : List Evt) (e : Evt) : Cj l obj (m ++ [e]) = if Ok e = true ∧ Aw e = obj then Fg (Cj l obj m) [] (Fi l l e) else Cj l obj m := by simp [Cj]
theorem Ajo {l : List Ver} {v x : Ver} : x ∈ Fg l [] v ↔ x = v ∨ x ∈ l := by
 unfold Fg; rw [Nt];simp only [List.mem_append, List.mem_cons];have : x ∈ l ↔ x ∈ l.take (Pg l v.rep v.seq 0).1 ∨ x ∈ l.drop (Pg l v.rep v.seq 0).1 := by
  rw [← List.mem_append, List.take_append_drop]
 rw [this];constructor
 · rintro (h | h | h)
   · exact .inr (.inl h)
   · exact .inl h
   · exact .inr (.inr h)
 · rintro (h | h | h)
   · exact .inr (.inl h)
   · exact .inl h
   · exact .inr (.inr h)
theorem Alq (l : List Ver) (v : Ver) : (Fg l [] v).length = l.length + 1 := by
 unfold Fg; rw [Nt];simp only [List.length_append, List.length_take, List.length_cons, List.length_drop]; omega
theorem Aav {l : List Ver} {v : Ver} (hs : Ci l) (hn : Bm l v.rep v.seq = none) : Ci (Fg l [] v) := by
 unfold Fg; rw [Nt];have hfalse : Pg l v.rep v.seq 0 = ((Pg l v.rep v.seq 0).1, false) := by
  rcases h : Pg l v.rep v.seq 0 with ⟨i, b⟩
  cases b with
  | false => rfl
  | true =>
    obtain ⟨_, u, _, _, h4⟩ := H7 h;rw [hn] at h4; cases h4
 obtain ⟨_, _, _, _, h5, h6⟩ := Hp hs hfalse;generalize (Pg l v.rep v.seq 0).1 = p at *;simp only [Nat.sub_zero] at h5 h6;refine List.pairwise_append.2 ⟨hs.sublist (List.take_sublist _ _), List.pairwise_cons.2 ⟨fun u hu => h6 u hu, hs.sublist (List.drop_sublist _ _)⟩, fun a ha b hb => ?_⟩;rcases List.mem_cons.1 hb with rfl | hb
 · exact h5 a ha
 · have := h5 a ha;exact O6 this (h6 b hb)
theorem Ni {l : List Evt} {obj : Bi} {v : Ver} : ∀ (n : Nat) (m : List Evt), m.length = n → (v ∈ Cj l obj m ↔ ∃ e ∈ m, (Ok e = true ∧ Aw e = obj) ∧ v = Fi l l e)
 | 0, m, h => by obtain rfl := List.eq_nil_of_length_eq_zero h; simp [Cj]
 | n + 1, m, h => by
   have hne : m ≠ [] := fun e => by subst e; simp at h
   have e1 := (List.dropLast_concat_getLast hne).symm;have ih := Ni (l := l) (obj := obj) (v := v) n m.dropLast (by simp [h]);rw [e1, Om];generalize m.getLast hne = e at *;generalize m.dropLast = m' at *;split
   · rename_i hc;rw [Ajo, ih];constructor
     · rintro (rfl | ⟨f, h1, h2⟩)
       · exact ⟨e, by simp, hc, rfl⟩
       · exact ⟨f, by simp [h1], h2⟩
     · rintro ⟨f, h1, h2, h3⟩;rcases List.mem_append.1 h1 with h1 | h1
       · exact .inr ⟨f, h1, h2, h3⟩
       · rw [List.mem_singleton] at h1; subst h1; exact .inl h3
   · rename_i hc;rw [ih];constructor
     · rintro ⟨f, h1, h2⟩; exact ⟨f, by simp [h1], h2⟩
     · rintro ⟨f, h1, h2, h3⟩;rcases List.mem_append.1 h1 with h1 | h1
       · exact ⟨f, h1, h2, h3⟩
       · rw [List.mem_singleton] at h1; subst h1; exact absurd h2 hc
def NodE (l : List Evt) : Prop := (l.map Aj).Nodup
theorem W2 {l m : List Evt} {obj : Bi} {e : Evt} (hn : NodE (m ++ [e])) : Bm (Cj l obj m) e.rep e.seq = none := by
 rw [Lt];intro v hv ⟨h1, h2⟩;obtain ⟨f, hf, _, rfl⟩ := (Ni m.length m rfl).1 hv;have : Aj f = Aj e := Prod.ext h1 h2;unfold NodE at hn;rw [List.map_append, List.nodup_append] at hn;exact hn.2.2 (Aj f) (List.mem_map_of_mem hf) (Aj e) (by simp) this
theorem NodE.take {l : List Evt} (h : NodE l) (k : Nat) : NodE (l.take k) := by
 unfold NodE at *; rw [List.map_take]; exact h.sublist (List.take_sublist _ _)
theorem Io {l : List Evt} {obj : Bi} : ∀ (n : Nat) (m : List Evt), m.length = n → NodE m → Ci (Cj l obj m) ∧ (Cj l obj m).length ≤ n
 | 0, m, h, _ => by obtain rfl := List.eq_nil_of_length_eq_zero h; exact ⟨List.Pairwise.nil, by simp [Cj]⟩
 | n + 1, m, h, hn => by
   have hne : m ≠ [] := fun e => by subst e; simp at h
   have e1 := (List.dropLast_concat_getLast hne).symm;have hn' : NodE m.dropLast := by unfold NodE at *; rw [List.map_dropLast]; exact hn.sublist (List.dropLast_sublist _)
   obtain ⟨h1, h2⟩ := Io (l := l) (obj := obj) n m.dropLast (by simp [h]) hn';rw [e1] at hn ⊢;rw [Om];split
   · exact ⟨Aav h1 (W2 hn), by rw [Alq]; omega⟩
   · exact ⟨h1, by omega⟩
theorem Atp {l : List Ver} {v : Ver} (hs : Ci l) (hn : l.length ≤ 900) (ho : Bm l v.rep v.seq = none) {h d} (hh : h 40 = some (.row 11 (l.map A4))) :
 FunOk Tryz.prog 99 [.os 40, .pv (.sl true 0 []), .vec 11 (A4 v)] h d (.tup [.os d, .pv (.i .i64 0)]) [.new d (.row 11 ((Fg l [] v).map A4))] := by
 refine FunOk.imp (args' := [.os 40, .pv (.sl true 2 []), .vec 11 (A4 v)]) ?_ ⟨Imp.refl _, Aaa (Ju id (.inl rfl) (.refl _)), Imp.refl _, trivial⟩ (by simp [A8, tn]);exact Ayw (f := false) (g := true) (l := l) (bs := []) (by simp only [Co, Me, hh]; rfl) rfl hs hn (by simp) (fun ⟨b, hb, _⟩ => by simp at hb) ho
structure EvsOk (l : List Evt) (rk : Evt → Nat) : Prop where
 len : l.length ≤ 400
 nod : NodE l
 ev : ∀ e ∈ l, ev e ∧ e.data.length ≤ 1000
 grd : Grd l rk
 rk : ∀ e ∈ l, rk e < l.length
noncomputable def Amf (f : Bool) (l : List Evt) (o : Bi) (k : Nat) : FS := mk [(6, .pv (.i .i64 k)), (5, .os 40), (0, .pv (.sl f 21 (l.map Bo))), (3, .p 3 0)] [(3, some (.var (.vec 2 [.i .i64 o.1, .i .u32 o.2]))), (40, some (.row 11 ((Cj l o (l.take k)).map A4)))]
noncomputable def Abe (f : Bool) (l : List Evt) (o : Bi) (k : Nat) (e : Evt) (j : Nat) : FS := mk [(8, .pv (.i .i64 j)), (6, .pv (.i .i64 k)), (5, .os 40), (7, .p 7 0), (0, .pv (.sl f 21 (l.map Bo))), (3, .p 3 0)] [(7, some (.var (.vec 11 (A4 (Fi l (l.take j) e))))), (3, some (.var (.vec 2 [.i .i64 o.1, .i .u32 o.2]))), (40, some (.row 11 ((Cj l o (l.take k)).map A4)))]
theorem Al4 (r : Int) (q : Nat) (s : List UInt8) (g : Vc) : Imp (.agg [.vec 2 [.i .i64 r, .i .u32 q], .pv (.s s), .vec 8 (vE g)]) (.vec 11 (A4 ⟨r, q, s, g⟩)) := Fz (by rfl) (G1 _)
set_option maxHeartbeats 8000000 in
theorem Aep {x : SV} {f : Bool} {l : List Evt} {rk : Evt → Nat} (o : Bi) {h d} (hx : Co h [x, .vec 2 [.i .i64 o.1, .i .u32 o.2]] = [.pv (.sl f 21 (l.map Bo)), .vec 2 [.i .i64 o.1, .i .u32 o.2]]) (hl : Bc [x, .vec 2 [.i .i64 o.1, .i .u32 o.2]] = true) (hE : EvsOk l rk) : FunOk Tryz.prog 68 [x, .vec 2 [.i .i64 o.1, .i .u32 o.2]] h d (.pv (.sl false 11 ((Cj l o l).map A4))) [] := by
 refine X3 Ae fn68 (by simp) hl (W3 _) fun F => ?_;rw [hx];have hn := hE.len;simp (disch := omega) only [ir68, go_sem];refine A1 Ae (Amf f l o) (fun k => k ≤ l.length) (fun k => l.length - k) 0 (by simp) (T5 5 40 11 rfl (by omega) (Am ?_ ?_)) fun k hk => ?_
 · simp (disch := omega) only [go_sem]
 · simp (disch := omega) only [Cj, List.take_zero, List.foldl_nil, List.map_nil, go_sem]
 by_cases hlt : k < l.length
 · have hx : l[k]? = some l[k] := List.getElem?_eq_getElem hlt;have he : (l.map Bo)[k]? = some (Bo l[k]) := by rw [List.getElem?_map, hx]; rfl
   have ht := Dg hx;have hsn := Om l o (l.take k) l[k];have hnd := hE.nod.take (k + 1);rw [ht] at hnd;rw [← ht] at hsn;have hmem := List.getElem_mem hlt;generalize l[k] = e at *;obtain ⟨hso, hle⟩ := Io (l := l) (obj := o) _ (l.take k) rfl (hE.nod.take k);have hle' : (l.take k).length ≤ 400 := by simp; omega
   have hnew := W2 (l := l) (obj := o) hnd;have hwb : Ok e = decide (e.kind = 3 ∨ e.kind = 4 ∨ e.kind = 5) := rfl;by_cases hw : Ok e = true;rotate_left
   · rw [if_neg (fun q => hw q.1)] at hsn;have hw' : Ok e = false := by simpa using hw
     simp (disch := omega) only [Amf, List.length_map, he, B0, go_sem];refine Aa (Km e) ?_;rw [← hwb, hw'];simp (disch := omega) only [go_sem];refine Ad (k + 1) _ _ rfl (by omega) (by omega) ?_ ?_
     · simp (disch := omega) only [go_sem]
     · simp (disch := omega) only [hsn, go_sem]
   by_cases ho : Aw e = o;rotate_left
   · rw [if_neg (fun q => ho q.2)] at hsn;have hp := F9 ho;simp (disch := omega) only [Amf, List.length_map, he, B0, go_sem];refine Aa (Km e) ?_;rw [← hwb, hw];simp (disch := omega) only [he, Ba, Ai, Bt, hp, List.length_map, go_sem];refine Ad (k + 1) _ _ rfl (by omega) (by omega) ?_ ?_
     · simp (disch := omega) only [go_sem]
     · simp (disch := omega) only [hsn, go_sem]
   rw [if_pos ⟨hw, ho⟩] at hsn;have hp := F8 ho;simp (disch := omega) only [Amf, List.length_map, he, B0, go_sem];refine Aa (Km e) ?_;rw [← hwb, hw];simp (disch := omega) only [he, Ba, Ai, Bt, hp, List.length_map, Bf, go_sem];refine Aa (Ab7 (rk := rk) hE.grd (by omega) hE.ev l.length (Aj e) (fun e' he' => hE.rk e' (List.mem_of_find?_eq_some he')) _ f _ _ rfl rfl) ?_;simp (disch := omega) only [go_sem];refine A1 Ae (Abe f l o k e) (fun j => j ≤ l.length) (fun j => l.length - j) 0 (by simp) (Am ?_ ?_) fun j hj => ?_
   · simp (disch := omega) only [go_sem]
   · simp (disch := omega) only [Fi, gvG, List.take_zero, List.foldl_nil, go_sem];exact Al4 _ _ _ _
   by_cases hjl : j < l.length
   · have hx2 : l[j]? = some l[j] := List.getElem?_eq_getElem hjl;have he2 : (l.map Bo)[j]? = some (Bo l[j]) := by rw [List.getElem?_map, hx2]; rfl
     have ht2 := Dg hx2;have hevj := (hE.ev _ (List.getElem_mem hjl)).1;generalize l[j] = g at *;have hB : Fi l (l.take (j + 1)) e = if Wp g (Aw e) (Aj e) = true then { Fi l (l.take j) e with gone := A3 (Fi l (l.take j) e).gone g.rep g.seq } else Fi l (l.take j) e := by
      unfold Fi; rw [ht2, Acw]; split <;> rfl
     have hid : ((Fi l (l.take j) e).rep, (Fi l (l.take j) e).seq) = Aj e := rfl;generalize hX : Fi l (l.take j) e = X at *;have hwg : Ok g = decide (g.kind = 3 ∨ g.kind = 4 ∨ g.kind = 5) := rfl;by_cases hg : Ok g = true;rotate_left
     · have hgo : ¬ Wp g (Aw e) (Aj e) = true := by unfold Wp; simp [hg]
       have hg' : Ok g = false := by simpa using hg
       rw [if_neg hgo] at hB;simp (disch := omega) only [Abe, hX, List.length_map, he2, B0, go_sem];refine Aa (Km g) ?_;rw [← hwg, hg'];simp (disch := omega) only [go_sem];refine Ad (j + 1) _ _ rfl (by omega) (by omega) ?_ ?_
       · simp (disch := omega) only [go_sem]
       · simp (disch := omega) only [hB, go_sem]
     by_cases hog : Aw g = o;rotate_left
     · have hp2 := F9 hog;have hgo : ¬ Wp g (Aw e) (Aj e) = true := by rw [← ho] at hog; unfold Wp; simp [hog]
       rw [if_neg hgo] at hB;simp (disch := omega) only [Abe, hX, List.length_map, he2, B0, go_sem];refine Aa (Km g) ?_;rw [← hwg, hg];simp (disch := omega) only [List.length_map, he2, Ba, Ai, Bt, hp2, go_sem];refine Ad (j + 1) _ _ rfl (by omega) (by omega) ?_ ?_
       · simp (disch := omega) only [go_sem]
       · simp (disch := omega) only [hB, go_sem]
     have hp2 := F8 hog;have hpv : g.base.pv = .sl g.base.f g.base.z (g.base.l.map Ek) := rfl;simp (disch := omega) only [Abe, hX, List.length_map, he2, B0, go_sem];refine Aa (Km g) ?_;rw [← hwg, hg];simp (disch := omega) only [List.length_map, he2, Ba, Ai, Bt, hp2, Gj, Cq, go_sem];refine Aa (Oy g.base (X.rep, X.seq) hevj.2.1 hevj.2.2.2.1) ?_;by_cases hin : (X.rep, X.seq) ∈ g.base.l
     · have hgo : Wp g (Aw e) (Aj e) = true := by
        rw [hid] at hin; unfold Wp; simp [hg, hog, ho, hin]
       rw [if_pos hgo] at hB;have hsp := I6 X (A3 X.gone g.rep g.seq);have hvl := Bl (A3 X.gone g.rep g.seq);simp (disch := omega) only [hin, Mu, List.length_map, he2, Bf, go_sem];refine Aa (Ge _ _ _) ?_;simp (disch := omega) only [hsp, hvl, go_sem];refine Ad (j + 1) _ _ rfl (by omega) (by omega) ?_ ?_
       · simp (disch := omega) only [go_sem]
       · simp (disch := omega) only [hB, go_sem]
     · have hgo : ¬ Wp g (Aw e) (Aj e) = true := by
        rw [hid] at hin; unfold Wp; simp [hin]
       rw [if_neg hgo] at hB;simp (disch := omega) only [hin, go_sem];refine Ad (j + 1) _ _ rfl (by omega) (by omega) ?_ ?_
       · simp (disch := omega) only [go_sem]
       · simp (disch := omega) only [hB, go_sem]
   · obtain rfl : j = l.length := by omega
     have htk : l.take l.length = l := List.take_length;simp (disch := omega) only [Abe, List.length_map, htk, Jf, go_sem];refine Aa (Atp (l := Cj l o (l.take k)) (v := Fi l l e) hso (by omega) hnew rfl) ?_;simp (disch := omega) only [go_sem];refine ⟨k + 1, by omega, by omega, Gm 40 rfl (Ew 85 40 (by decide) rfl (Am ?_ ?_))⟩
     · simp (disch := omega) only [go_sem]
     · simp (disch := omega) only [hsn, go_sem]
 · obtain rfl : k = l.length := by omega
   have htk : l.take l.length = l := List.take_length;simp (disch := omega) only [Amf, List.length_map, htk, go_sem]
mutual
theorem Awi {π : Nat → Nat} : ∀ {x : SV}, x.closed = true → x.rn π = x
 | .pv _, _ => rfl
 | .vec _ _, _ => rfl
 | .pi _ _ _ _, _ => rfl
 | .dead, _ => rfl
 | .agg l, h => by simp only [SV.closed] at h; simp only [SV.rn, Uz h]
 | .tup l, h => by simp only [SV.closed] at h; simp only [SV.rn, Uz h]
 | .fn f l, h => by simp only [SV.closed] at h; simp only [SV.rn, Uz h]
 | .p _ _, h => by simp [SV.closed] at h
 | .ps _ _, h => by simp [SV.closed] at h
 | .pr _ _ _ _, h => by simp [SV.closed] at h
 | .os _, h => by simp [SV.closed] at h
 | .ov _ _ _ _, h => by simp [SV.closed] at h
theorem Uz {π : Nat → Nat} : ∀ {l : List SV}, SV.closedL l = true → SV.rnL π l = l
 | [], _ => rfl
 | x :: l, h => by
   simp only [SV.closedL, Bool.and_eq_true] at h;simp only [SV.rnL, Awi h.1, Uz h.2]
end
mutual
theorem A10 : ∀ {x : SV}, x.closed = true → tn x = []
 | .pv _, _ => rfl
 | .vec _ _, _ => rfl
 | .pi _ _ _ _, _ => rfl
 | .dead, _ => rfl
 | .agg l, h => by simp only [SV.closed] at h; simp only [tn, Po h]
 | .tup l, h => by simp only [SV.closed] at h; simp only [tn, Po h]
 | .fn f l, h => by simp only [SV.closed] at h; simp only [tn, Po h]
 | .p _ _, h => by simp [SV.closed] at h
 | .ps _ _, h => by simp [SV.closed] at h
 | .pr _ _ _ _, h => by simp [SV.closed] at h
 | .os _, h => by simp [SV.closed] at h
 | .ov _ _ _ _, h => by simp [SV.closed] at h
theorem Po : ∀ {l : List SV}, SV.closedL l = true → A8 l = []
 | [], _ => rfl
 | x :: l, h => by
   simp only [SV.closedL, Bool.and_eq_true] at h;simp only [A8, A10 h.1, Po h.2, List.append_nil]
end
theorem Awf (a m : Nat) : sw1 a m a = m := if_pos rfl
theorem FunOk.quiet {P : Program} {f : Nat} {args : List SV} {h : Nat → Option Blk} {d g : Nat} {x : SV} {blk : Blk} (hf : FunOk P f args h d x [.upd g blk]) (hg : h g = some blk) (hin : g ∈ A8 args) : FunOk P f args h d x [] :=
 ⟨hf.1, fun F N ρ s a w hR hh vs hc => by
  have hs : s.h g = some blk := (hh g hin).trans hg;have e : s.hup [.upd g blk] = s := FS.ext' (fun _ => rfl) fun n => by
   simp only [FS.hup, FS.seth];split
   · rename_i e; rw [e]; exact hs.symm
   · rfl
  have := hf.2 F N ρ s a w hR hh vs hc;rw [e] at this;exact this⟩
theorem FunOk.ioRow {P : Program} {f : Nat} {a : List SV} {sz : Nat} {es : List (List PV)} {x : SV} (hf : ∀ h d, h 900 = some (.row sz es) → FunOk P f (.os 900 :: a) h d x [.upd 900 (.row sz es)]) (ha : SV.closedL a = true) (hx : x.closed = true) {g : Nat} {h : Nat → Option Blk} {d : Nat} (hg : h g = some (.row sz es)) :
 FunOk P f (.os g :: a) h d x [] := by
 have h1 := (hf (fun k => h (sw1 900 g k)) d (by show h (sw1 900 g 900) = _; rw [Awf]; exact hg)).rn (π := sw1 900 g) (Agl 900 g) (d' := d);simp only [SV.rnL, SV.rn, HU.rn, Blk.rn, List.map_cons, List.map_nil, Awf, Uz ha, Awi hx] at h1;refine FunOk.quiet (g := g) (blk := .row sz es) (h1.at fun n hn => ?_) hg (by simp [A8, tn]);simp only [A8, tn, Po ha, List.append_nil, List.mem_singleton] at hn;subst hn;simp only [Agl, hg, Option.map_some, Blk.rn]
def Dh (e : Evt) (o : Obj) (f : Evt) : Obj :=
 if Aw f = Aj e then
  if f.kind = 7 then (if Bp o.last.1 o.last.2 f.rep f.seq = true then { o with last := Aj f, name := f.name } else o)
  else if f.kind = 6 then { o with seen := Ck o.seen (A3 f.dep f.rep f.seq) } else o
 else o
noncomputable def Cw (l m : List Evt) (e : Evt) : Obj := m.foldl (Dh e) ⟨Aj e, decide (e.kind = 2), Aj e, e.name, fun _ => 0, Cj l (Aj e) l⟩
theorem Iz (l m : List Evt) (e f : Evt) : Cw l (m ++ [f]) e = Dh e (Cw l m e) f := by simp [Cw]
def Jk : SV := .agg [.pv (.i .i64 0), .pv (.i .u32 0), .pv (.b false), .pv (.i .i64 0), .pv (.i .u32 0), .pv (.s []), .vec 8 (vE fun _ => 0), .pv (.sl true 0 [])]
theorem Atq (o : Obj) : Imp (.agg [.vec 2 [.i .i64 o.id.1, .i .u32 o.id.2], .pv (.b o.dir), .vec 2 [.i .i64 o.last.1, .i .u32 o.last.2], .pv (.s o.name), .vec 8 (vE o.seen), .pv (.sl false 11 (o.vers.map A4))]) (.vec 15 (Ax o)) := Fz (by rfl) (D8 _)
noncomputable def Ul (f : Bool) (l : List Evt) (e : Evt) (k : Nat) : FS := mk [(6, .pv (.i .i64 k)), (0, .os 900), (3, .p 3 0), (4, .p 4 0), (5, .p 5 0), (1000000, .os 900)] [(3, some (.var (.vec 21 (Bo e)))), (4, some (.var Jk)), (5, some (.var (.vec 15 (Ax (Cw l (l.take k) e))))), (900, some (.row 21 (l.map Bo)))]
set_option maxHeartbeats 8000000 in
theorem Aeq {l : List Evt} {rk : Evt → Nat} (e : Evt) {h d} (hE : EvsOk l rk) (hg : h 900 = some (.row 21 (l.map Bo))) : FunOk Tryz.prog 30 [.os 900, .vec 21 (Bo e)] h d (.vec 15 (Ax (Cw l l e))) [.upd 900 (.row 21 (l.map Bo))] := by
 refine Tq (g := 900) Ae fn30 (by simp) (by simp [A8, tn]) (by simp [A8, tn]) hg rfl (by simp [Blk.ptr, SV.kill]) rfl (fun _ => rfl) fun F => ?_;obtain ⟨f, hf⟩ : ∃ f : Bool, f = false := ⟨_, rfl⟩
 have hn := hE.len;simp (disch := omega) only [ir30, Bf, Af, Ea, Blk.ptr, go_sem];refine Aa (Aep (rk := rk) (l := l) (Aj e) rfl rfl hE) ?_;simp (disch := omega) only [go_sem];refine A1 Ae (Ul f l e) (fun k => k ≤ l.length) (fun k => l.length - k) 0 (by simp) (Am ?_ ?_) fun k hk => ?_
 · simp (disch := omega) only [go_sem]
 · simp (disch := omega) only [Cw, List.take_zero, List.foldl_nil, Jk, go_sem];exact Atq ⟨Aj e, decide (e.kind = 2), Aj e, e.name, fun _ => 0, Cj l (Aj e) l⟩
 by_cases hlt : k < l.length
 · have hx : l[k]? = some l[k] := List.getElem?_eq_getElem hlt;have he : (l.map Bo)[k]? = some (Bo l[k]) := by rw [List.getElem?_map, hx]; rfl
   have ht := Dg hx;have hsn := Iz l (l.take k) e l[k];rw [← ht] at hsn;generalize l[k] = g at *;generalize hX : Cw l (l.take k) e = X at *;by_cases ho : Aw g = Aj e;rotate_left
   · have hp := F9 ho;have hs : Dh e X g = X := if_neg ho;rw [hs] at hsn;simp (disch := omega) only [Ul, hX, List.length_map, he, Ba, Bf, Ai, Bt, hp, go_sem];refine Ad (k + 1) _ _ rfl (by omega) (by omega) ?_ ?_
     · simp (disch := omega) only [go_sem]
     · simp (disch := omega) only [hsn, Jk, go_sem]
   have hp := F8 ho;by_cases h7 : g.kind = 7
   · by_cases hl7 : Bp X.last.1 X.last.2 g.rep g.seq = true
     · have hs : Dh e X g = { X with last := Aj g, name := g.name } := by unfold Dh; rw [if_pos ho, if_pos h7, if_pos hl7]
       rw [hs] at hsn;have hsp := Abi X (Aj g);have hsp2 := Abh { X with last := Aj g } g.name;simp (disch := omega) only [Ul, hX, List.length_map, he, Ba, Bf, Ai, Bt, hp, Af, h7, Jg, go_sem];refine Aa (Ir X.last.1 X.last.2 g.rep g.seq) ?_;simp (disch := omega) only [hl7, go_sem];refine Wh ?_;simp (disch := omega) only [List.length_map, he, Bf, Ea, hsp, hsp2, Af, h7, go_sem];refine Ad (k + 1) _ _ rfl (by omega) (by omega) ?_ ?_
       · simp (disch := omega) only [go_sem]
       · simp (disch := omega) only [hsn, Jk, go_sem]
     · have hs : Dh e X g = X := by unfold Dh; rw [if_pos ho, if_pos h7, if_neg hl7]
       rw [hs] at hsn;have hl7' : Bp X.last.1 X.last.2 g.rep g.seq = false := by simpa using hl7
       simp (disch := omega) only [Ul, hX, List.length_map, he, Ba, Bf, Ai, Bt, hp, Af, h7, Jg, go_sem];refine Aa (Ir X.last.1 X.last.2 g.rep g.seq) ?_;simp (disch := omega) only [hl7', List.length_map, he, Af, h7, go_sem];refine Ad (k + 1) _ _ rfl (by omega) (by omega) ?_ ?_
       · simp (disch := omega) only [go_sem]
       · simp (disch := omega) only [hsn, Jk, go_sem]
   by_cases h6 : g.kind = 6
   · have hs : Dh e X g = { X with seen := Ck X.seen (A3 g.dep g.rep g.seq) } := by unfold Dh; rw [if_pos ho, if_neg h7, if_pos h6]
     rw [hs] at hsn;have hsp := Abg X (Ck X.seen (A3 g.dep g.rep g.seq));have hvl := Bl (Ck X.seen (A3 g.dep g.rep g.seq));simp (disch := omega) only [Ul, hX, List.length_map, he, Ba, Bf, Ai, Bt, hp, Af, h7, h6, Li, Fp, go_sem];refine Aa (Ge _ _ _) ?_;simp (disch := omega) only [go_sem];refine Aa (Zs _ _) ?_;simp (disch := omega) only [hsp, hvl, go_sem];refine Ad (k + 1) _ _ rfl (by omega) (by omega) ?_ ?_
     · simp (disch := omega) only [go_sem]
     · simp (disch := omega) only [hsn, Jk, go_sem]
   · have hs : Dh e X g = X := by unfold Dh; rw [if_pos ho, if_neg h7, if_neg h6]
     rw [hs] at hsn;simp (disch := omega) only [Ul, hX, List.length_map, he, Ba, Bf, Ai, Bt, hp, Af, h7, h6, go_sem];refine Ad (k + 1) _ _ rfl (by omega) (by omega) ?_ ?_
     · simp (disch := omega) only [go_sem]
     · simp (disch := omega) only [hsn, Jk, go_sem]
 obtain rfl : k = l.length := by omega
 have htk : l.take l.length = l := List.take_length;have hol := D8 (Cw l l e);simp (disch := omega) only [Ul, Jk, List.length_map, htk, Gp, hol, go_sem];refine Br ?_;simp (disch := omega) only [go_sem]
theorem Xj {l : List Evt} {rk : Evt → Nat} (e : Evt) {h d g} (hE : EvsOk l rk) (hg : h g = some (.row 21 (l.map Bo))) : FunOk Tryz.prog 30 [.os g, .vec 21 (Bo e)] h d (.vec 15 (Ax (Cw l l e))) [] :=
 FunOk.ioRow (fun h d hg => Aeq e hE hg) rfl rfl hg
def Ll (l : List Obj) (o : Obj) : List Obj := l.take (Ca l o.id) ++ o :: l.drop (Ca l o.id)
noncomputable def Ft (l : List Evt) (p : St × Vc) (e : Evt) : St × Vc :=
 if e.kind = 1 ∨ e.kind = 2 then ({ p.1 with objs := Ll p.1.objs (Cw l l e) }, p.2)
 else if e.kind = 8 then (if Ec p.2 e.rep < e.seq then (I9 p.1 e, A3 p.2 e.rep e.seq) else p)
 else if e.kind = 9 then (Px p.1 e, p.2)
 else p
noncomputable def Et (l m : List Evt) : St × Vc := m.foldl (Ft l) (⟨Bw l, [], Cm l l, fun _ => 0, fun _ => false⟩, fun _ => 0)
noncomputable def Aq (l : List Evt) : St := (Et l l).1
theorem Ho (l m : List Evt) (e : Evt) : Et l (m ++ [e]) = Ft l (Et l m) e := by simp [Et]
theorem Acb {l : List Obj} {o x : Obj} : x ∈ Ll l o ↔ x = o ∨ x ∈ l := by
 unfold Ll;simp only [List.mem_append, List.mem_cons];have : x ∈ l ↔ x ∈ l.take (Ca l o.id) ∨ x ∈ l.drop (Ca l o.id) := by rw [← List.mem_append, List.take_append_drop]
 rw [this];constructor
 · rintro (h | h | h)
   · exact .inr (.inl h)
   · exact .inl h
   · exact .inr (.inr h)
 · rintro (h | h | h)
   · exact .inr (.inl h)
   · exact .inl h
   · exact .inr (.inr h)
theorem Ao7 (l : List Obj) (o : Obj) : (Ll l o).length = l.length + 1 := by
 unfold Ll;simp only [List.length_append, List.length_take, List.length_cons, List.length_drop];have := P0 l o.id; omega
theorem Ats (l : List Obj) (o : Obj) : (Ll l o).map obN = N4 (l.map obN) (obN o) := by
 unfold Ll N4 Ca;simp [List.map_take, List.map_drop]; rfl
theorem Xb {l : List Obj} {o : Obj} (hs : Ef l) (hn : ∀ x ∈ l, x.id ≠ o.id) : Ef (Ll l o) := by
 unfold Ef; rw [Ats];refine Up hs (Fy.2 fun x hx => ?_);obtain ⟨u, hu, rfl⟩ := List.mem_map.1 hx;exact hn u hu
theorem Jy (l : List Evt) (e : Evt) : ∀ m : List Evt, (Cw l m e).id = Aj e := fun m => by
 unfold Cw;generalize hq : (⟨Aj e, decide (e.kind = 2), Aj e, e.name, fun _ => 0, Cj l (Aj e) l⟩ : Obj) = o;have : o.id = Aj e := by rw [← hq]
 clear hq
 induction m generalizing o with
 | nil => exact this
 | cons f m ih =>
   simp only [List.foldl_cons];refine ih _ ?_;unfold Dh;split
   · split
     · split <;> exact this
     · split <;> exact this
   · exact this
theorem Wb {l : List Evt} : ∀ (n : Nat) (m : List Evt), m.length = n → NodE m → Ef (Et l m).1.objs ∧ (Et l m).1.objs.length ≤ n ∧ ∀ o, o ∈ (Et l m).1.objs ↔ ∃ e ∈ m, (e.kind = 1 ∨ e.kind = 2) ∧ o = Cw l l e
 | 0, m, h, _ => by obtain rfl := List.eq_nil_of_length_eq_zero h; exact ⟨List.Pairwise.nil, by simp [Et], by simp [Et]⟩
 | n + 1, m, h, hn => by
   have hne : m ≠ [] := fun e => by subst e; simp at h
   have e1 := (List.dropLast_concat_getLast hne).symm;have hn' : NodE m.dropLast := by unfold NodE at *; rw [List.map_dropLast]; exact hn.sublist (List.dropLast_sublist _)
   obtain ⟨h1, h2, h3⟩ := Wb (l := l) n m.dropLast (by simp [h]) hn';rw [e1] at hn ⊢;rw [Ho];generalize m.getLast hne = e at *;generalize m.dropLast = m' at *;have grow : ∀ o : Obj, ((∃ f ∈ m' ++ [e], (f.kind = 1 ∨ f.kind = 2) ∧ o = Cw l l f) ↔ (∃ f ∈ m', (f.kind = 1 ∨ f.kind = 2) ∧ o = Cw l l f) ∨ ((e.kind = 1 ∨ e.kind = 2) ∧ o = Cw l l e)) := fun o => by
    simp only [List.mem_append, List.mem_singleton];constructor
    · rintro ⟨f, hf | rfl, h⟩
      · exact .inl ⟨f, hf, h⟩
      · exact .inr h
    · rintro (⟨f, hf, h⟩ | h)
      · exact ⟨f, .inl hf, h⟩
      · exact ⟨e, .inr rfl, h⟩
   by_cases h12 : e.kind = 1 ∨ e.kind = 2
   · have hS : (Ft l (Et l m') e).1.objs = Ll (Et l m').1.objs (Cw l l e) := by unfold Ft; rw [if_pos h12]
     rw [hS];have hnew : ∀ x ∈ (Et l m').1.objs, x.id ≠ (Cw l l e).id := fun x hx => by
      obtain ⟨f, hf, _, rfl⟩ := (h3 x).1 hx;rw [Jy, Jy];unfold NodE at hn;rw [List.map_append, List.nodup_append] at hn;exact hn.2.2 (Aj f) (List.mem_map_of_mem hf) (Aj e) (by simp)
     refine ⟨Xb h1 hnew, by rw [Ao7]; omega, fun o => ?_⟩;rw [Acb, h3, grow];constructor
     · rintro (h | h)
       · exact .inr ⟨h12, h⟩
       · exact .inl h
     · rintro (h | h)
       · exact .inr h
       · exact .inl h.2
   · have hS : (Ft l (Et l m') e).1.objs = (Et l m').1.objs := by
      unfold Ft; rw [if_neg h12];split
      · split <;> rfl
      · split <;> rfl
     rw [hS];refine ⟨h1, by omega, fun o => ?_⟩;rw [h3, grow];exact ⟨.inl, fun h => h.resolve_right fun q => h12 q.1⟩
theorem Adg (l m : List Evt) : (Et l m).1.ents = Cm l l ∧ (Et l m).1.known = Bw l := by
 unfold Et;generalize hq : ((⟨Bw l, [], Cm l l, fun _ => 0, fun _ => false⟩ : St), (fun _ => 0 : Vc)) = p;have : p.1.ents = Cm l l ∧ p.1.known = Bw l := by rw [← hq]; exact ⟨rfl, rfl⟩
 clear hq
 induction m generalizing p with
 | nil => exact this
 | cons f m ih =>
   simp only [List.foldl_cons];refine ih _ ?_;unfold Ft;split
   · exact this
   · split
     · split
       · exact this
       · exact this
     · split <;> exact this
noncomputable def Se (f : Bool) (l : List Evt) (k : Nat) : FS := mk [(5, .pv (.i .i64 k)), (0, .os 900), (2, .p 2 0), (3, .p 3 0), (4, .p 4 0), (1000000, .os 900)] [(2, some (.var D5)), (3, some (.var (.agg (Bd (Et l (l.take k)).1)))), (4, some (.var (.vec 8 (vE (Et l (l.take k)).2)))), (900, some (.row 21 (l.map Bo)))]
noncomputable def W8 (f : Bool) (l : List Evt) (k : Nat) (e : Evt) (S : St) (v : Vc) (o : Obj) (j : Nat) : FS := mk [(8, .pv (.i .i64 j)), (7, .p 7 0), (6, .p 6 0), (5, .pv (.i .i64 k)), (0, .os 900), (2, .p 2 0), (3, .p 3 0), (4, .p 4 0), (1000000, .os 900)] [(7, some (.var (.vec 15 (Ax o)))), (6, some (.var (.vec 21 (Bo e)))), (2, some (.var D5)), (3, some (.var (.agg (Bd S)))), (4, some (.var (.vec 8 (vE v)))), (900, some (.row 21 (l.map Bo)))]
theorem Te {l : List Obj} {i : Bi} {k : Nat} {x : Obj} (hk : k < Ca l i) (hx : l[k]? = some x) : Hj x.id i = true := by
 obtain ⟨y, h1, h2⟩ := Anb (l := l.map obN) hk;rw [Tp hx] at h1; cases h1; exact h2
theorem Zk {l : List Obj} (hs : Ef l) {i : Bi} {k : Nat} {x : Obj} (hk : Ca l i ≤ k) (hx : l[k]? = some x) : ¬ Hj x.id i = true := Ayd (l := l.map obN) hs hk (Tp hx)
set_option maxHeartbeats 16000000 in
theorem Aje {l : List Evt} {rk : Evt → Nat} {h d} (hE : EvsOk l rk) (hB : ∀ e ∈ l, 1 ≤ e.rep ∧ e.rep ≤ 8) (hg : h 900 = some (.row 21 (l.map Bo))) : FunOk Tryz.prog 12 [.os 900] h d (.agg (Bd (Aq l))) [.upd 900 (.row 21 (l.map Bo))] := by
 refine Tq (g := 900) Ae fn12 (by simp) (by simp [A8, tn]) (by simp [A8, tn]) hg rfl (by simp [Blk.ptr, SV.kill]) rfl (fun _ => rfl) fun F => ?_;obtain ⟨f, hf⟩ : ∃ f : Bool, f = false := ⟨_, rfl⟩
 have hn := hE.len;have hevs : ∀ e ∈ l, ev e := fun e he => (hE.ev e he).1;simp (disch := omega) only [ir12, Blk.ptr, go_sem];refine Aa (Atj (l := l) rfl rfl (by omega)) ?_;simp (disch := omega) only [go_sem];refine Aa (Ai9 (l := l) rfl rfl (by omega) hevs) ?_;simp (disch := omega) only [go_sem];refine A1 Ae (Se f l) (fun k => k ≤ l.length) (fun k => l.length - k) 0 (by simp) (Am ?_ ?_) fun k hk => ?_
 · simp (disch := omega) only [go_sem]
 · simp (disch := omega) only [Et, List.take_zero, List.foldl_nil, D5, go_sem];exact ⟨Zf (s := ⟨Bw l, [], Cm l l, fun _ => 0, fun _ => false⟩) (.inl rfl) (.inr rfl) trivial (.refl _), rfl⟩
 by_cases hlt : k < l.length
 · have hx : l[k]? = some l[k] := List.getElem?_eq_getElem hlt;have he : (l.map Bo)[k]? = some (Bo l[k]) := by rw [List.getElem?_map, hx]; rfl
   have ht := Dg hx;have hsn := Ho l (l.take k) l[k];have hlk : (l.take k).length ≤ 400 := by simp; omega
   have hnd := hE.nod.take (k + 1);rw [← ht] at hsn;rw [ht] at hnd;have hrep := hB _ (List.getElem_mem hlt);generalize l[k] = e at *;obtain ⟨hso, hol, hom⟩ := Wb (l := l) _ (l.take k) rfl (hE.nod.take k);have hel := Ac e;generalize hX : Et l (l.take k) = X at *;obtain ⟨S, v⟩ := X;simp only at hso hol hom;by_cases h12 : e.kind = 1 ∨ e.kind = 2
   · have hs : Ft l (S, v) e = ({ S with objs := Ll S.objs (Cw l l e) }, v) := by unfold Ft; rw [if_pos h12]
     rw [hs] at hsn;have n8 : ¬ e.kind = 8 := by omega
     have n9 : ¬ e.kind = 9 := by omega
     have hoe := D8 (Cw l l e);have hoi := Jy l e l;have hnew : ∀ x ∈ S.objs, x.id ≠ Aj e := fun x hx => by
      obtain ⟨f, hf, _, rfl⟩ := (hom x).1 hx;rw [Jy];unfold NodE at hnd;rw [List.map_append, List.nodup_append] at hnd;exact hnd.2.2 (Aj f) (List.mem_map_of_mem hf) (Aj e) (by simp)
     rcases h12 with h1 | h2
     · simp (disch := omega) only [Se, hX, List.length_map, he, B0, hel, Af, h1, go_sem];refine Aa (Xj e hE rfl) ?_;simp (disch := omega) only [hoe, Bd, A7, List.length_map, D5, go_sem];generalize hO : Cw l l e = o at *;have hp0 := P0 S.objs (Aj e);refine A1 Ae (W8 f l k e S v o) (fun j => Ca S.objs (Aj e) ≤ j ∧ j ≤ S.objs.length) (fun j => j) S.objs.length ⟨hp0, Nat.le_refl _⟩ (Am ?_ ?_) fun j hj => ?_
       · simp (disch := omega) only [go_sem]
       · simp (disch := omega) only [Bd, A7, D5, go_sem]
       obtain ⟨hj1, hj2⟩ := hj;by_cases hj0 : j = 0
       · subst hj0;have hjq : Ca S.objs (Aj e) = 0 := by omega
         simp (disch := omega) only [W8, Bd, A7, D5, go_sem];have hT : (S.objs.map Ax).take S.objs.length = S.objs.map Ax := List.take_of_length_le (by simp);have hD : ((S.objs.map Ax).drop 0).length = S.objs.length - 0 := by simp
         have hD2 : ((S.objs.map Ax).take 0).length = 0 := by rw [List.length_take, List.length_map]; omega
         have hI : (S.objs.map Ax).take 0 ++ Ax o :: S.objs.map Ax = (Ll S.objs o).map Ax := by
          unfold Ll; rw [hoi, hjq]; simp [List.map_take, List.map_drop]
         refine Tx ?_;simp (disch := omega) only [List.length_map, Gp, hoe, hT, hD, hD2, Af, n8, n9, go_sem];refine ⟨k + 1, by omega, by omega, Gm 70 rfl (Am ?_ ?_)⟩
         · simp (disch := omega) only [go_sem]
         · simp (disch := omega) only [hI, hsn, Bd, A7, D5, go_sem]
       · have hjx : j - 1 < S.objs.length := by omega
         have hx3 : S.objs[j - 1]? = some S.objs[j - 1] := List.getElem?_eq_getElem hjx;have he3 : (S.objs.map Ax)[j - 1]? = some (Ax S.objs[j - 1]) := by rw [List.getElem?_map, hx3]; rfl
         have hmx := List.getElem_mem hjx;have ejn : ((j : Int) - 1).toNat = j - 1 := by omega
         have hjp : (0 : Int) < j := by omega
         generalize S.objs[j - 1] = x at *;simp (disch := omega) only [W8, Bd, A7, D5, hjp, List.length_map, ejn, he3, H2, go_sem];refine Aa (Ir o.id.1 o.id.2 x.id.1 x.id.2) ?_;by_cases hlx : Bp o.id.1 o.id.2 x.id.1 x.id.2 = true
         · simp (disch := omega) only [hlx, go_sem];refine Ad (j - 1) _ _ rfl ⟨?_, by omega⟩ (by omega) ?_ ?_
           · have : ¬ Ca S.objs (Aj e) = j := fun q => O5 (Te (i := Aj e) (by omega) hx3) (by rw [← hoi]; exact hlx);omega
           · simp (disch := omega) only [go_sem]
           · simp (disch := omega) only [Bd, A7, D5, go_sem]
         · have hlx' : Bp o.id.1 o.id.2 x.id.1 x.id.2 = false := by simpa using hlx
           have hjq : Ca S.objs (Aj e) = j := by
            have h3 : Hj x.id (Aj e) = true := by
             rw [hoi] at hlx;exact Lm hlx (fun q => hnew x hmx q.symm)
            have : ¬ Ca S.objs (Aj e) ≤ j - 1 := fun q => Zk hso q hx3 h3;omega
           simp (disch := omega) only [hlx', go_sem];have hT : (S.objs.map Ax).take S.objs.length = S.objs.map Ax := List.take_of_length_le (by simp);have hD : ((S.objs.map Ax).drop j).length = S.objs.length - j := by simp
           have hD2 : ((S.objs.map Ax).take j).length = j := by rw [List.length_take, List.length_map]; omega
           have hI : (S.objs.map Ax).take j ++ Ax o :: (S.objs.map Ax).drop j = (Ll S.objs o).map Ax := by
            unfold Ll; rw [hoi, hjq]; simp [List.map_take, List.map_drop]
           refine Tx ?_;simp (disch := omega) only [List.length_map, Gp, hoe, hT, hD, hD2, Af, n8, n9, go_sem];refine ⟨k + 1, by omega, by omega, Gm 70 rfl (Am ?_ ?_)⟩
           · simp (disch := omega) only [go_sem]
           · simp (disch := omega) only [hI, hsn, Bd, A7, D5, go_sem]
     · have n1 : ¬ e.kind = 1 := by omega
       simp (disch := omega) only [Se, hX, List.length_map, he, B0, hel, Af, n1, h2, go_sem];refine Aa (Xj e hE rfl) ?_;simp (disch := omega) only [hoe, Bd, A7, List.length_map, D5, go_sem];generalize hO : Cw l l e = o at *;have hp0 := P0 S.objs (Aj e);refine A1 Ae (W8 f l k e S v o) (fun j => Ca S.objs (Aj e) ≤ j ∧ j ≤ S.objs.length) (fun j => j) S.objs.length ⟨hp0, Nat.le_refl _⟩ (Am ?_ ?_) fun j hj => ?_
       · simp (disch := omega) only [go_sem]
       · simp (disch := omega) only [Bd, A7, D5, go_sem]
       obtain ⟨hj1, hj2⟩ := hj;by_cases hj0 : j = 0
       · subst hj0;have hjq : Ca S.objs (Aj e) = 0 := by omega
         simp (disch := omega) only [W8, Bd, A7, D5, go_sem];have hT : (S.objs.map Ax).take S.objs.length = S.objs.map Ax := List.take_of_length_le (by simp);have hD : ((S.objs.map Ax).drop 0).length = S.objs.length - 0 := by simp
         have hD2 : ((S.objs.map Ax).take 0).length = 0 := by rw [List.length_take, List.length_map]; omega
         have hI : (S.objs.map Ax).take 0 ++ Ax o :: S.objs.map Ax = (Ll S.objs o).map Ax := by
          unfold Ll; rw [hoi, hjq]; simp [List.map_take, List.map_drop]
         refine Tx ?_;simp (disch := omega) only [List.length_map, Gp, hoe, hT, hD, hD2, Af, n8, n9, go_sem];refine ⟨k + 1, by omega, by omega, Gm 70 rfl (Am ?_ ?_)⟩
         · simp (disch := omega) only [go_sem]
         · simp (disch := omega) only [hI, hsn, Bd, A7, D5, go_sem]
       · have hjx : j - 1 < S.objs.length := by omega
         have hx3 : S.objs[j - 1]? = some S.objs[j - 1] := List.getElem?_eq_getElem hjx;have he3 : (S.objs.map Ax)[j - 1]? = some (Ax S.objs[j - 1]) := by rw [List.getElem?_map, hx3]; rfl
         have hmx := List.getElem_mem hjx;have ejn : ((j : Int) - 1).toNat = j - 1 := by omega
         have hjp : (0 : Int) < j := by omega
         generalize S.objs[j - 1] = x at *;simp (disch := omega) only [W8, Bd, A7, D5, hjp, List.length_map, ejn, he3, H2, go_sem];refine Aa (Ir o.id.1 o.id.2 x.id.1 x.id.2) ?_;by_cases hlx : Bp o.id.1 o.id.2 x.id.1 x.id.2 = true
         · simp (disch := omega) only [hlx, go_sem];refine Ad (j - 1) _ _ rfl ⟨?_, by omega⟩ (by omega) ?_ ?_
           · have : ¬ Ca S.objs (Aj e) = j := fun q => O5 (Te (i := Aj e) (by omega) hx3) (by rw [← hoi]; exact hlx);omega
           · simp (disch := omega) only [go_sem]
           · simp (disch := omega) only [Bd, A7, D5, go_sem]
         · have hlx' : Bp o.id.1 o.id.2 x.id.1 x.id.2 = false := by simpa using hlx
           have hjq : Ca S.objs (Aj e) = j := by
            have h3 : Hj x.id (Aj e) = true := by
             rw [hoi] at hlx;exact Lm hlx (fun q => hnew x hmx q.symm)
            have : ¬ Ca S.objs (Aj e) ≤ j - 1 := fun q => Zk hso q hx3 h3;omega
           simp (disch := omega) only [hlx', go_sem];have hT : (S.objs.map Ax).take S.objs.length = S.objs.map Ax := List.take_of_length_le (by simp);have hD : ((S.objs.map Ax).drop j).length = S.objs.length - j := by simp
           have hD2 : ((S.objs.map Ax).take j).length = j := by rw [List.length_take, List.length_map]; omega
           have hI : (S.objs.map Ax).take j ++ Ax o :: (S.objs.map Ax).drop j = (Ll S.objs o).map Ax := by
            unfold Ll; rw [hoi, hjq]; simp [List.map_take, List.map_drop]
           refine Tx ?_;simp (disch := omega) only [List.length_map, Gp, hoe, hT, hD, hD2, Af, n8, n9, go_sem];refine ⟨k + 1, by omega, by omega, Gm 70 rfl (Am ?_ ?_)⟩
           · simp (disch := omega) only [go_sem]
           · simp (disch := omega) only [hI, hsn, Bd, A7, D5, go_sem]
   have n1 : ¬ e.kind = 1 := fun h => h12 (.inl h);have n2 : ¬ e.kind = 2 := fun h => h12 (.inr h);obtain ⟨r, hr8, hre⟩ : ∃ r : Nat, r < 8 ∧ e.rep - 1 = r := ⟨(e.rep - 1).toNat, by omega, by omega⟩
   by_cases h8 : e.kind = 8
   · have n9 : ¬ e.kind = 9 := by omega
     by_cases hq : Ec v e.rep < e.seq
     · have hs : Ft l (S, v) e = (I9 S e, A3 v e.rep e.seq) := by unfold Ft; rw [if_neg h12, if_pos h8]; exact if_pos hq
       rw [hs] at hsn;have hS : I9 S e = { S with wards := Ds S.wards r e.ward } := by unfold I9; rw [hre]; rfl
       rw [hS] at hsn;have hsp := Abj S hr8 e.ward (.sl false 15 (S.objs.map Ax)) (.sl false 15 (S.ents.map Bh));have hq' : ((Ec v e.rep : Nat) : Int) < (e.seq : Int) := by omega
       have hvl := Bl (A3 v e.rep e.seq);simp (disch := omega) only [Se, hX, List.length_map, he, B0, hel, Af, n1, n2, h8, D4, Gq, go_sem];refine Aa (U8 v e.rep) ?_;simp (disch := omega) only [hq', Bf, go_sem];refine Aa (Ge _ _ _) ?_;simp (disch := omega) only [hvl, D4, hre, Z2, Bd, A7, hsp, Af, h8, go_sem];refine Ad (k + 1) _ _ rfl (by omega) (by omega) ?_ ?_
       · simp (disch := omega) only [go_sem]
       · simp (disch := omega) only [hsn, D5, go_sem];exact ⟨Yz { S with wards := Ds S.wards r e.ward }, rfl⟩
     · have hs : Ft l (S, v) e = (S, v) := by unfold Ft; rw [if_neg h12, if_pos h8]; exact if_neg hq
       rw [hs] at hsn;have hq' : ¬ ((Ec v e.rep : Nat) : Int) < (e.seq : Int) := by omega
       simp (disch := omega) only [Se, hX, List.length_map, he, B0, hel, Af, n1, n2, h8, D4, Gq, go_sem];refine Aa (U8 v e.rep) ?_;simp (disch := omega) only [hq', Af, h8, go_sem];refine Ad (k + 1) _ _ rfl (by omega) (by omega) ?_ ?_
       · simp (disch := omega) only [go_sem]
       · simp (disch := omega) only [hsn, D5, Bd, A7, go_sem]
   by_cases h9 : e.kind = 9
   · have hs : Ft l (S, v) e = (Px S e, v) := by unfold Ft; rw [if_neg h12, if_neg h8, if_pos h9]
     rw [hs] at hsn;have hS : Px S e = { S with ret := Ds S.ret r true } := by unfold Px; rw [hre]; rfl
     rw [hS] at hsn;have hsp := Agr S hr8 true (.sl false 15 (S.objs.map Ax)) (.sl false 15 (S.ents.map Bh));simp (disch := omega) only [Se, hX, List.length_map, he, B0, hel, Af, n1, n2, h8, h9, D4, hre, Bd, A7, hsp, go_sem];refine Ad (k + 1) _ _ rfl (by omega) (by omega) ?_ ?_
     · simp (disch := omega) only [go_sem]
     · simp (disch := omega) only [hsn, D5, go_sem];exact Yz { S with ret := Ds S.ret r true }
   · have hs : Ft l (S, v) e = (S, v) := by unfold Ft; rw [if_neg h12, if_neg h8, if_neg h9]
     rw [hs] at hsn;simp (disch := omega) only [Se, hX, List.length_map, he, B0, hel, Af, n1, n2, h8, h9, go_sem];refine Ad (k + 1) _ _ rfl (by omega) (by omega) ?_ ?_
     · simp (disch := omega) only [go_sem]
     · simp (disch := omega) only [hsn, D5, Bd, A7, go_sem]
 obtain rfl : k = l.length := by omega
 have htk : l.take l.length = l := List.take_length;simp (disch := omega) only [Se, D5, Bd, A7, List.length_map, htk, Aq, go_sem];refine Br ?_;simp (disch := omega) only [go_sem]
theorem An3 {l : List Evt} {rk : Evt → Nat} {h d g} (hE : EvsOk l rk) (hB : ∀ e ∈ l, 1 ≤ e.rep ∧ e.rep ≤ 8) (hg : h g = some (.row 21 (l.map Bo))) : FunOk Tryz.prog 12 [.os g] h d (.agg (Bd (Aq l))) [] :=
 FunOk.ioRow (fun h d hg => Aje hE hB hg) rfl rfl hg
theorem Vd {l : List Obj} (hs : Ef l) (i : Bi) : Di l i = l.find? fun o => decide (o.id = i) := by
 cases h : Di l i with
 | some o =>
   obtain ⟨h1, h2⟩ := Fo h;symm;obtain ⟨hlt, hg⟩ := List.getElem?_eq_some_iff.1 h1;rw [List.find?_eq_some_iff_getElem];refine ⟨by simpa using h2, Ca l i, hlt, hg, fun j hj => ?_⟩;have := Te hj (List.getElem?_eq_getElem (by omega));simp only [Bool.not_eq_true', decide_eq_false_iff_not];intro q;rw [q] at this;exact E1 this
 | none =>
   symm;rw [List.find?_eq_none];intro x hx q;have q : x.id = i := by simpa using q
   obtain ⟨j, hj⟩ := List.mem_iff_getElem?.1 hx;have h1 : ¬ j < Ca l i := fun hq => by
    have := Te hq hj;rw [q] at this; exact E1 this
   by_cases e : j = Ca l i
   · unfold Di at h;rw [← e, hj] at h;simp only at h;rw [if_pos q] at h; cases h
   · have hlt := (List.getElem?_eq_some_iff.1 hj).1;have hp : Ca l i < l.length := by omega
     have hy : l[Ca l i]? = some l[Ca l i] := List.getElem?_eq_getElem hp;have h3 := Hf hs hy hj (by omega);rw [q] at h3;exact Zk hs (Nat.le_refl _) hy h3
def Y4 (s : St) (i : Bi) (z : SV) (k : Nat) : FS := mk [(6, .pv (.i .i64 k)), (2, .p 2 0), (3, .p 3 0), (4, .p 4 0)] [(2, some (.var (.agg (Bd s)))), (3, some (.var (.vec 2 [.i .i64 i.1, .i .u32 i.2]))), (4, some (.var z))]
def Aez : Obj := ⟨(0, 0), false, (0, 0), [], fun _ => 0, []⟩
theorem Xz : Imp (.agg [.pv (.i .i64 0), .pv (.i .u32 0), .pv (.b false), .pv (.i .i64 0), .pv (.i .u32 0), .pv (.s []), .vec 8 (vE fun _ => 0), .pv (.sl true 0 [])]) (.vec 15 (Ax Aez)) :=
 fun V ρ v h => Aj3 (Aha Aez (.inl rfl)) V ρ v (Fz (n := 15) (cs := E6 true 0 Aez) (by rfl) (D7 _ _ _) V ρ v h)
set_option maxHeartbeats 1000000 in
theorem Ag4 {s : St} (i : Bi) (hs : Ef s.objs) {h d} (hn : s.objs.length ≤ 1000) : FunOk Tryz.prog 16 [.agg (Bd s), .vec 2 [.i .i64 i.1, .i .u32 i.2]] h d (.tup [.vec 15 (Ax ((Di s.objs i).getD Aez)), .pv (.b (Di s.objs i).isSome)]) [] := by
 refine Nx Ae fn16 (by simp) rfl rfl fun F => ?_;simp (disch := omega) only [ir16, Bd, A7, go_sem];refine A1 Ae (Y4 s i Jk) (fun k => k ≤ s.objs.length ∧ ∀ j x, j < k → s.objs[j]? = some x → x.id ≠ i) (fun k => s.objs.length - k) 0 ⟨by simp, fun j x hj => absurd hj (Nat.not_lt_zero j)⟩ (Am ?_ ?_) fun k hk => ?_
 · simp (disch := omega) only [go_sem]
 · simp (disch := omega) only [Jk, Bd, A7, go_sem]
 obtain ⟨hk1, hk2⟩ := hk;rw [Vd hs];by_cases hlt : k < s.objs.length
 · have hx : s.objs[k]? = some s.objs[k] := List.getElem?_eq_getElem hlt;have he : (s.objs.map Ax)[k]? = some (Ax s.objs[k]) := by rw [List.getElem?_map, hx]; rfl
   have hgk : s.objs[k] = s.objs[k] := rfl;generalize hO : s.objs[k] = o at *;have hol := D8 o;by_cases hb : o.id = i
   · have hp := F8 hb;have hf : s.objs.find? (fun o => decide (o.id = i)) = some o := by
      rw [List.find?_eq_some_iff_getElem];refine ⟨by simpa using hb, k, hlt, hO, fun j hj => ?_⟩;simpa using hk2 j _ hj (List.getElem?_eq_getElem (by omega))
     rw [hf];simp (disch := omega) only [Y4, Jk, Bd, A7, List.length_map, he, H2, Ai, Bt, hp, Gp, hol, go_sem];refine Br ?_;simp (disch := omega) only [go_sem];exact Imp.refl _
   · have hp := F9 hb;simp (disch := omega) only [Y4, Jk, Bd, A7, List.length_map, he, H2, Ai, Bt, hp, go_sem];refine Ad (k + 1) _ _ rfl ⟨by omega, fun j x hj hjx => ?_⟩ (by omega) ?_ ?_
     · by_cases ej : j = k
       · subst ej; rw [hx] at hjx; cases hjx; exact hb
       · exact hk2 j x (by omega) hjx
     · simp (disch := omega) only [go_sem]
     · simp (disch := omega) only [Jk, Bd, A7, go_sem]
 · obtain rfl : k = s.objs.length := by omega
   have hf : s.objs.find? (fun o => decide (o.id = i)) = none := by
    rw [List.find?_eq_none];intro x hx;obtain ⟨j, hj⟩ := List.mem_iff_getElem?.1 hx;simpa using hk2 j x (List.getElem?_eq_some_iff.1 hj).1 hj
   rw [hf];simp (disch := omega) only [Y4, Jk, Bd, A7, List.length_map, go_sem];refine Br ?_;simp (disch := omega) only [go_sem];exact Pn Xz
theorem Atl {s : St} (i : Bi) (hs : Ef s.objs) {h d} (hn : s.objs.length ≤ 1000) : FunOk Tryz.prog 26 [.agg (Bd s), .vec 2 [.i .i64 i.1, .i .u32 i.2]] h d (.pv (.i .i64 (Jh s.objs i))) [] := by
 refine Au Ae fn26 (by simp) rfl rfl fun F => ?_;have hd := Vy (l := s.objs) i;have ho := Ag4 (s := s) i hs hn (h := fun _ => none) (d := 0);rw [show Bd s = [.vec 8 (vE s.known), .pv (.sl false 15 (s.objs.map Ax)), .pv (.sl false 15 (s.ents.map Bh)), .vec 8 (iE s.wards), .vec 8 (wE s.ret)] from rfl] at ho;simp (disch := omega) only [ir26, Bd, A7, go_sem];refine Aa (Ani _ _) ?_;by_cases h0 : i = (0, 0)
 · have hz : Bx i.1 i.2 = true := decide_eq_true (Aa0 h0);rw [if_pos h0] at hd;simp (disch := omega) only [hz, hd, go_sem]
 · have hz : Bx i.1 i.2 = false := decide_eq_false fun e => h0 (Prod.ext e.1 e.2);rw [if_neg h0] at hd;simp (disch := omega) only [hz, go_sem];refine Aa (ho.at (by simp [A8, tn])) ?_;cases hA : Di s.objs i with
   | none =>
     rw [hA] at hd;simp only at hd;have hol := D8 Aez;simp (disch := omega) only [Option.isSome_none, hol, hd, go_sem]
   | some o =>
     rw [hA] at hd;simp only at hd;have hol := D8 o;by_cases hdd : o.dir = true
     · rw [if_pos hdd] at hd;simp (disch := omega) only [Option.isSome_some, Option.getD_some, hol, Dt, hdd, hd, go_sem]
     · have hdd' : o.dir = false := by simpa using hdd
       rw [if_neg hdd] at hd;simp (disch := omega) only [Option.isSome_some, Option.getD_some, hol, Dt, hdd', hd, go_sem]
theorem Adb {e : Evt} (h : Bg e = true) (hk : e.kind = 3 ∨ e.kind = 4 ∨ e.kind = 5) : ∀ b ∈ e.base.l, Bj e.dep b.1 b.2 = true := by
 unfold Bg at h;simp only [Bool.and_eq_true, decide_eq_true_eq] at h;have hK := h.2.2.2;have key : ∀ m, Eb e.base.l m e.dep = true → ∀ b ∈ e.base.l, Bj e.dep b.1 b.2 = true := fun m hm b hb => by
  unfold Eb Gy at hm;simp only [Bool.and_eq_true, decide_eq_true_eq] at hm;obtain ⟨j, hj⟩ := List.mem_iff_getElem?.1 hb;obtain ⟨hlt, hg⟩ := List.getElem?_eq_some_iff.1 hj;have := (hm.2 j hlt).1;rw [hg] at this; exact this
 rcases hk with h3 | h3 | h3
 · rw [J0 h3] at hK;simp only [Bool.and_eq_true] at hK;exact key _ hK.2.1
 · rw [Nv h3] at hK;simp only [Bool.and_eq_true] at hK;exact key _ hK.2.1
 · rw [Nu h3] at hK;simp only [Bool.and_eq_true] at hK;exact key _ hK.2.1
theorem Acv {a : Vc} {r : Int} {q : Nat} (h : Bj a r q = true) : 1 ≤ q ∧ 1 ≤ r ∧ r ≤ 8 ∧ q ≤ a (r - 1).toNat := by
 unfold Bj Ec at h;simp only [decide_eq_true_eq] at h;by_cases hr : 1 ≤ r ∧ r ≤ 8
 · rw [if_pos hr] at h; exact ⟨h.1, hr.1, hr.2, h.2⟩
 · rw [if_neg hr] at h; omega
def Ame (s : St) (e : Evt) (o : Obj) (k : Nat) : FS := mk [(7, .pv (.i .i64 k)), (2, .p 2 0), (3, .p 3 0), (5, .p 5 0), (4, .pv (.i .i64 0))] [(2, some (.var (.agg (Bd s)))), (3, some (.var (.vec 21 (Bo e)))), (5, some (.var (.vec 15 (Ax o))))]
set_option maxHeartbeats 8000000 in
theorem A2k {s : St} {e : Evt} (hs : StIn s) (he : ev e) (hdep : ∀ i, i < 8 → e.dep i < 4294967296) {h d} : FunOk Tryz.prog 11 [.agg (Bd s), .vec 21 (Bo e)] h d (.pv (.i .i64 (Ga s e))) [] := by
 refine Au Ae fn11 (by simp) rfl rfl fun F => ?_;have a1 := hs.fine.on;have hS : Bd s = [.vec 8 (vE s.known), .pv (.sl false 15 (s.objs.map Ax)), .pv (.sl false 15 (s.ents.map Bh)), .vec 8 (iE s.wards), .vec 8 (wE s.ret)] := rfl;have hO := Ag4 (s := s) (Aw e) hs.so (by omega) (h := fun _ => none) (d := 0);have hD := Atl (s := s) (G6 e) hs.so (by omega) (h := fun _ => none) (d := 0);rw [hS] at hO hD;simp (disch := omega) only [ir11, Bd, A7, B0, go_sem];refine Aa (An2 e he hdep) ?_;by_cases hc' : Bg e = false
 · have hw : Ga s e = 7 := if_pos hc';simp (disch := omega) only [hc', hw, go_sem]
 have hc : Bg e = true := by simpa using hc'
 have hb := Cc hc;obtain ⟨b1, b2, b3, b4, b5, b6, b7⟩ := hb;simp (disch := omega) only [hc, Bf, Fp, go_sem];refine Aa (Oz _ _ _) ?_;by_cases h1 : Bj s.known e.rep e.seq = true
 · have hw : Ga s e = 11 := by unfold Ga; rw [if_neg hc', if_pos h1]
   simp (disch := omega) only [h1, hw, go_sem]
 have h1' : Bj s.known e.rep e.seq = false := by simpa using h1
 simp (disch := omega) only [h1', Fp, go_sem];refine Aa (Ayo _ _) ?_;by_cases h2 : Ua e.dep s.known;rotate_left
 · have hw : Ga s e = 10 := by unfold Ga; rw [if_neg hc', if_neg h1, if_pos h2]
   have h2' := decide_eq_false h2;simp (disch := omega) only [h2', hw, go_sem]
 have h2' := decide_eq_true h2;obtain ⟨k, hk8, hre⟩ : ∃ k : Nat, k < 8 ∧ e.rep - 1 = k := ⟨(e.rep - 1).toNat, by omega, by omega⟩
 have hld := fun (a b : PV) (w : Nat → Int) (r : Nat → Bool) (K : KK) => Ahi a b w r hk8 K;simp (disch := omega) only [h2', D4, hre, hld, go_sem];by_cases h3 : s.ret k = true
 · have hw : Ga s e = 28 := by unfold Ga; rw [if_neg hc', if_neg h1, if_neg (by simpa using h2), if_pos (by rw [hre]; exact h3)]
   simp (disch := omega) only [h3, hw, go_sem]
 have h3' : s.ret k = false := by simpa using h3
 have hw : Ga s e = Pm s e := by unfold Ga; rw [if_neg hc', if_neg h1, if_neg (by simpa using h2), if_neg (by rw [hre]; exact h3)]
 unfold Pm at hw;by_cases h89 : e.kind = 8 ∨ e.kind = 9
 · rw [if_pos h89] at hw;rcases h89 with h8 | h9
   · simp (disch := omega) only [h3', Af, h8, hw, go_sem]
   · have n8 : ¬ e.kind = 8 := by omega
     simp (disch := omega) only [h3', Af, n8, h9, hw, go_sem]
 rw [if_neg h89] at hw;have n8 : ¬ e.kind = 8 := fun q => h89 (.inl q);have n9 : ¬ e.kind = 9 := fun q => h89 (.inr q);by_cases h12 : e.kind = 1 ∨ e.kind = 2
 · rw [if_pos h12] at hw;rcases h12 with h1k | h2k
   · simp (disch := omega) only [h3', Af, n8, n9, h1k, C4, go_sem];refine Aa (hD.at (by simp [A8, tn])) ?_;simp (disch := omega) only [hw, go_sem]
   · have n1 : ¬ e.kind = 1 := by omega
     simp (disch := omega) only [h3', Af, n8, n9, n1, h2k, C4, go_sem];refine Aa (hD.at (by simp [A8, tn])) ?_;simp (disch := omega) only [hw, go_sem]
 rw [if_neg h12] at hw;have n1 : ¬ e.kind = 1 := fun q => h12 (.inl q);have n2 : ¬ e.kind = 2 := fun q => h12 (.inr q);simp (disch := omega) only [h3', Af, n8, n9, n1, n2, Ba, go_sem];refine Aa (hO.at (by simp [A8, tn])) ?_;cases hA : Di s.objs (Aw e) with
 | none =>
   rw [hA] at hw;simp only at hw;have hol := D8 Aez;simp (disch := omega) only [Option.isSome_none, Option.getD_none, hol, hw, go_sem]
 | some o =>
   rw [hA] at hw;simp only at hw;have hol := D8 o;by_cases h7 : e.kind = 7
   · rw [if_pos h7] at hw;simp (disch := omega) only [Option.isSome_some, Option.getD_some, hol, Af, h7, C4, go_sem];refine Aa (hD.at (by simp [A8, tn])) ?_;simp (disch := omega) only [hw, go_sem]
   rw [if_neg h7] at hw;by_cases h6 : e.kind = 6
   · rw [if_pos h6] at hw;simp (disch := omega) only [Option.isSome_some, Option.getD_some, hol, Af, h7, h6, hw, go_sem]
   rw [if_neg h6] at hw;by_cases hd : o.dir = true
   · rw [if_pos hd] at hw;simp (disch := omega) only [Option.isSome_some, Option.getD_some, hol, Af, h7, h6, Dt, hd, hw, go_sem]
   rw [if_neg hd] at hw;have hd' : o.dir = false := by simpa using hd
   have hk345 : e.kind = 3 ∨ e.kind = 4 ∨ e.kind = 5 := by omega
   have hb1 := Adb hc hk345;have hbl := Oh hc hk345;have hom := List.mem_of_getElem? (Fo hA).1;have hov := hs.fine.ov o hom;have hpv : e.base.pv = .sl e.base.f e.base.z (e.base.l.map Ek) := rfl;simp (disch := omega) only [Option.isSome_some, Option.getD_some, hol, Af, h7, h6, Dt, hd', go_sem];refine A1 Ae (Ame s e o) (fun k => k ≤ e.base.l.length ∧ ∀ j b, j < k → e.base.l[j]? = some b → Bm o.vers b.1 b.2 ≠ none) (fun k => e.base.l.length - k) 0 ⟨by simp, fun j b hj => absurd hj (Nat.not_lt_zero j)⟩ (Am ?_ ?_) fun k hk => ?_
   · simp (disch := omega) only [go_sem]
   · simp (disch := omega) only [Bd, A7, go_sem]
   obtain ⟨hk1, hk2⟩ := hk;by_cases hlt : k < e.base.l.length
   · have hx : e.base.l[k]? = some e.base.l[k] := List.getElem?_eq_getElem hlt;have hel : (e.base.l.map Ek)[k]? = some (Ek e.base.l[k]) := by rw [List.getElem?_map, hx]; rfl
     have hz2 : e.base.z = 2 := he.2.1.resolve_left fun q => by rw [q] at hlt; simp at hlt
     have hbm := List.getElem_mem hlt;have hbz := Acv (hb1 _ hbm);generalize e.base.l[k] = b at *;have hnz : ¬ (b.1 = 0 ∧ b.2 = 0) := by omega
     simp (disch := omega) only [Ame, Bd, A7, Gj, hpv, List.length_map, hz2, hel, Ez, D3, go_sem];refine Aa (Ag7 (l := o.vers) b.1 b.2 rfl rfl (by omega)) ?_;cases hf : Bm o.vers b.1 b.2 with
     | none =>
       have hm : Cx o.vers e.base.l := ⟨b, hbm, hf⟩
       rw [if_pos hm] at hw;have hdv := Qo hnz hf;simp (disch := omega) only [hdv, hw, go_sem]
     | some v =>
       have hdv := Lv hnz hf;simp (disch := omega) only [hdv, go_sem];refine Ad (k + 1) _ _ rfl ⟨by omega, fun j c hj hjc => ?_⟩ (by omega) ?_ ?_
       · by_cases ej : j = k
         · subst ej; rw [hx] at hjc; cases hjc; rw [hf]; simp
         · exact hk2 j c (by omega) hjc
       · simp (disch := omega) only [go_sem]
       · simp (disch := omega) only [Bd, A7, go_sem]
   · obtain rfl : k = e.base.l.length := by omega
     have hm : ¬ Cx o.vers e.base.l := fun ⟨b, hbm, hf⟩ => by
      obtain ⟨j, hj⟩ := List.mem_iff_getElem?.1 hbm;exact hk2 j b (List.getElem?_eq_some_iff.1 hj).1 hj hf
     rw [if_neg hm] at hw;simp (disch := omega) only [Ame, Bd, A7, Gj, hpv, List.length_map, hw, go_sem]
def vid (v : Ver) : Bi := (v.rep, v.seq)
def Od (bs : List Bi) (r : Int) (q : Nat) (x : Ver) : Ver := if (x.rep, x.seq) ∈ bs then En x r q else x
theorem Z0 (l : List Ver) (bs : List Bi) (r : Int) (q : Nat) : Dm l bs r q = l.map (Od bs r q) := rfl
theorem Ace (bs : List Bi) (r : Int) (q : Nat) (x : Ver) : vid (Od bs r q x) = vid x := by
 have := Gi x bs r q;simp only [vid, Od, this.1, this.2]
theorem Aoq {l : List Ver} {bs : List Bi} {v x : Ver} : x ∈ Fg l bs v ↔ x = v ∨ ∃ y ∈ l, x = Od bs v.rep v.seq y := by
 unfold Fg;rw [Z0];have h : ∀ p, x ∈ (l.map (Od bs v.rep v.seq)).take p ++ v :: (l.map (Od bs v.rep v.seq)).drop p ↔ x = v ∨ x ∈ l.map (Od bs v.rep v.seq) := fun p => by
  conv => rhs; rw [← List.take_append_drop p (l.map (Od bs v.rep v.seq))]
  simp only [List.mem_append, List.mem_cons];constructor
  · rintro (h | h | h)
    · exact .inr (.inl h)
    · exact .inl h
    · exact .inr (.inr h)
  · rintro (h | h | h)
    · exact .inr (.inl h)
    · exact .inl h
    · exact .inr (.inr h)
 rw [h, List.mem_map];exact or_congr_right ⟨fun ⟨y, h1, h2⟩ => ⟨y, h1, h2.symm⟩, fun ⟨y, h1, h2⟩ => ⟨y, h1, h2.symm⟩⟩
theorem Aq4 {l : List Ver} {r : Int} {q : Nat} (h : Bm l r q = none) : ∃ p, Pg l r q 0 = (p, false) := by
 rcases ha : Pg l r q 0 with ⟨p, b⟩
 cases b with
 | false => exact ⟨p, rfl⟩
 | true => obtain ⟨_, u, _, _, h4⟩ := H7 ha; rw [h] at h4; cases h4
theorem Adr {l : List Ver} {bs : List Bi} {v : Ver} (hs : Ci l) (h : Bm l v.rep v.seq = none) : Ci (Fg l bs v) := by
 obtain ⟨p, hp⟩ := Aq4 h;obtain ⟨_, g2, g3, g4, g5, g6⟩ := Hp hs hp;rw [Nat.sub_zero] at g2 g5 g6;have hM := P5 (bs := bs) (r := v.rep) (q := v.seq) hs;unfold Fg;rw [hp];simp only;have h5 : ∀ x ∈ (Dm l bs v.rep v.seq).take p, Bp x.rep x.seq v.rep v.seq = true := fun x hx => by
  rw [Z0, ← List.map_take] at hx;obtain ⟨y, hy, rfl⟩ := List.mem_map.1 hx;have := Ace bs v.rep v.seq y;simp only [vid, Prod.mk.injEq] at this;rw [this.1, this.2]; exact g5 y hy
 have h6 : ∀ x ∈ (Dm l bs v.rep v.seq).drop p, Bp v.rep v.seq x.rep x.seq = true := fun x hx => by
  rw [Z0, ← List.map_drop] at hx;obtain ⟨y, hy, rfl⟩ := List.mem_map.1 hx;have := Ace bs v.rep v.seq y;simp only [vid, Prod.mk.injEq] at this;rw [this.1, this.2]; exact g6 y hy
 refine List.pairwise_append.2 ⟨List.Pairwise.sublist (List.take_sublist _ _) hM, List.pairwise_cons.2 ⟨h6, List.Pairwise.sublist (List.drop_sublist _ _) hM⟩, fun a ha b hb => ?_⟩;rcases List.mem_cons.1 hb with rfl | hb
 · exact h5 a ha
 · exact O6 (h5 a ha) (h6 b hb)
theorem N9 {α : Type} {P : List α → Prop} (h0 : P []) (h1 : ∀ l a, P l → P (l ++ [a])) : ∀ l, P l := by
 have key : ∀ n, ∀ l : List α, l.length = n → P l := by
  intro n
  induction n with
  | zero => intro l hl; rw [List.eq_nil_of_length_eq_zero hl]; exact h0
  | succ n ih =>
    intro l hl;have hne : l ≠ [] := fun e => by subst e; simp at hl
    rw [← List.dropLast_concat_getLast hne];exact h1 _ _ (ih _ (by simp [hl]))
 exact fun l => key _ l rfl
theorem Zj {α : Type} {r : α → α → Prop} (ha : ∀ a b, r a b → r b a → False) : ∀ {l m : List α}, l.Pairwise r → m.Pairwise r → (∀ a, a ∈ l ↔ a ∈ m) → l = m
 | [], [], _, _, _ => rfl
 | [], y :: m, _, _, h => by have := (h y).2 List.mem_cons_self; cases this
 | x :: l, [], _, _, h => by have := (h x).1 List.mem_cons_self; cases this
 | x :: l, y :: m, hl, hm, h => by
   obtain ⟨h1, h2⟩ := List.pairwise_cons.1 hl;obtain ⟨k1, k2⟩ := List.pairwise_cons.1 hm;have ex : x = y := by
    rcases List.mem_cons.1 ((h x).1 List.mem_cons_self) with a | a
    · exact a
    · rcases List.mem_cons.1 ((h y).2 List.mem_cons_self) with b | b
      · exact b.symm
      · exact (ha _ _ (h1 y b) (k1 x a)).elim
   subst ex;congr 1;refine Zj ha h2 k2 fun a => ?_;have ne : ∀ {n : List α}, (∀ b ∈ n, r x b) → x ∉ n := fun hn hx => ha x x (hn x hx) (hn x hx);constructor
   · intro hq;rcases List.mem_cons.1 ((h a).1 (List.mem_cons_of_mem _ hq)) with e | e
     · subst e; exact absurd hq (ne h1)
     · exact e
   · intro hq;rcases List.mem_cons.1 ((h a).2 (List.mem_cons_of_mem _ hq)) with e | e
     · subst e; exact absurd hq (ne k1)
     · exact e
theorem Kj {l m : List Ent} (hl : Dl l) (hm : Dl m) (h : ∀ x, x ∈ l ↔ x ∈ m) : l = m := Zj (fun a b h k => O5 h k) hl hm h
theorem Q8 {l m : List Ver} (hl : Ci l) (hm : Ci m) (h : ∀ x, x ∈ l ↔ x ∈ m) : l = m := Zj (fun a b h k => O5 (a := (a.rep, a.seq)) (b := (b.rep, b.seq)) h k) hl hm h
theorem Ur {l : List Obj} : Ef l ↔ l.Pairwise fun a b => Hj a.id b.id = true := by
 unfold Ef Dl; rw [List.pairwise_map]; exact Iff.rfl
theorem Nn {l m : List Obj} (hl : Ef l) (hm : Ef m) (h : ∀ x, x ∈ l ↔ x ∈ m) : l = m := Zj (fun a b h k => O5 h k) (Ur.1 hl) (Ur.1 hm) h
structure Acc (s : St) (e : Evt) : Prop where
 ck : Bg e = true
 new : Bj s.known e.rep e.seq = false
 dep : Ua e.dep s.known
 ret : s.ret (e.rep - 1).toNat = false
 why : Pm s e = 0
theorem F5 {s : St} {e : Evt} : Ga s e = 0 ↔ Acc s e := by
 unfold Ga;constructor
 · intro h;split at h
   · cases h
   · split at h
     · cases h
     · split at h
       · cases h
       · split at h
         · cases h
         · rename_i h1 h2 h3 h4;exact ⟨by simpa using h1, by simpa using h2, by simpa using h3, by simpa using h4, h⟩
 · intro ⟨h1, h2, h3, h4, h5⟩;rw [if_neg (by rw [h1]; simp), if_neg (by rw [h2]; simp), if_neg (fun q => q h3), if_neg (by rw [h4]; simp)];exact h5
inductive Val : List Evt → Prop
 | nil : Val []
 | snoc {l : List Evt} {e : Evt} : Val l → ev e → Ga (Aq l) e = 0 → Val (l ++ [e])
theorem Du (l : List Evt) : (Aq l).known = Bw l := (Adg l l).2
theorem I3 (l : List Evt) : (Aq l).ents = Cm l l := (Adg l l).1
theorem Val.inv {l : List Evt} {e : Evt} (h : Val (l ++ [e])) : Val l ∧ ev e ∧ Ga (Aq l) e = 0 := by
 generalize hm : l ++ [e] = m at h;cases h with
 | nil => simp at hm
 | snoc a b c =>
   obtain ⟨rfl, h2⟩ := List.append_inj' hm rfl;cases h2;exact ⟨a, b, c⟩
theorem Val.pre {l m : List Evt} : Val (l ++ m) → Val l :=
 N9 (P := fun m => Val (l ++ m) → Val l) (fun h => by simpa using h) (fun m e ih h => by
  rw [← List.append_assoc] at h;exact ih h.inv.1) m
theorem Gf {a : Vc} {i : Bi} : Bj a i.1 i.2 = true ↔ 1 ≤ i.2 ∧ 1 ≤ i.1 ∧ i.1 ≤ 8 ∧ i.2 ≤ a (i.1 - 1).toNat := by
 refine ⟨Acv, fun ⟨h1, h2, h3, h4⟩ => ?_⟩;unfold Bj Ec; rw [if_pos ⟨h2, h3⟩]; exact decide_eq_true ⟨h1, h4⟩
theorem E5 {v : Vc} {r : Int} {q : Nat} (hr : 1 ≤ r ∧ r ≤ 8) (i : Nat) : A3 v r q i = if i = (r - 1).toNat then max (v i) q else v i := by
 unfold A3 Ds; rw [if_pos hr]; split
 · rename_i h; rw [h]
 · rfl
theorem Ys {v : Vc} {r : Int} {q : Nat} (i : Nat) : v i ≤ A3 v r q i := by
 by_cases hr : 1 ≤ r ∧ r ≤ 8
 · rw [E5 hr]; split <;> omega
 · unfold A3; rw [if_neg hr]; exact Nat.le_refl _
theorem Apj {a b : Vc} (h : ∀ i, i < 8 → a i ≤ b i) {i : Bi} (k : Bj a i.1 i.2 = true) : Bj b i.1 i.2 = true := by
 rw [Gf] at k ⊢;have := h (i.1 - 1).toNat (by omega);omega
theorem Wm {s : St} {e : Evt} (h : Acc s e) : 1 ≤ e.rep ∧ e.rep ≤ 8 ∧ e.seq = s.known (e.rep - 1).toNat + 1 := by
 obtain ⟨b1, b2, b3, b4, b5, b6, b7⟩ := Cc h.ck;have h1 := h.dep (e.rep - 1).toNat (by omega);have h2 : ¬ Bj s.known e.rep e.seq = true := by rw [h.new]; simp
 rw [show Bj s.known e.rep e.seq = Bj s.known (Aj e).1 (Aj e).2 from rfl, Gf] at h2;simp only at h2;omega
theorem Val.known {l : List Evt} (h : Val l) : NodE l ∧ ∀ i : Bi, Bj (Bw l) i.1 i.2 = true ↔ ∃ e ∈ l, Aj e = i := by
 induction h with
 | nil => exact ⟨List.nodup_nil, fun i => by rw [Gf]; simp [Bw]; omega⟩
 | @snoc l e hl he hw ih =>
   have ha := F5.1 hw;obtain ⟨n1, n2, n3⟩ := Wm ha;have hb := Cc ha.ck;rw [Du] at n3;have hnew : ¬ ∃ f ∈ l, Aj f = Aj e := fun q => by
    have := (ih.2 (Aj e)).2 q;have h2 := ha.new;rw [Du] at h2;rw [show Bj (Bw l) (Aj e).1 (Aj e).2 = Bj (Bw l) e.rep e.seq from rfl, h2] at this;cases this
   refine ⟨?_, fun i => ?_⟩
   · unfold NodE;rw [List.map_append, List.nodup_append];refine ⟨ih.1, by simp, fun a hm b hb q => hnew ?_⟩;obtain ⟨f, hf, rfl⟩ := List.mem_map.1 hm;simp at hb;exact ⟨f, hf, by rw [q, hb]⟩
   · rw [Jz];have key : Bj (A3 (Bw l) e.rep e.seq) i.1 i.2 = true ↔ Bj (Bw l) i.1 i.2 = true ∨ i = Aj e := by
      rw [Gf, Gf, E5 ⟨n1, n2⟩];by_cases hi : i = Aj e
      · subst hi;simp only [or_true, iff_true];refine ⟨hb.2.2.1, n1, n2, ?_⟩;simp only [if_true]; exact Nat.le_max_right _ _
      · simp only [hi, or_false];by_cases hr : i.1 = e.rep
        · have hq : i.2 ≠ e.seq := fun q => hi (Prod.ext hr q);rw [hr, if_pos rfl];omega
        · constructor
          · rintro ⟨a, b, c, d⟩;rw [if_neg (by omega)] at d;exact ⟨a, b, c, d⟩
          · rintro ⟨a, b, c, d⟩;rw [if_neg (by omega)];exact ⟨a, b, c, d⟩
     rw [key, ih.2];constructor
     · rintro (⟨f, hf, q⟩ | q)
       · exact ⟨f, by simp [hf], q⟩
       · exact ⟨e, by simp, q.symm⟩
     · rintro ⟨f, hf, q⟩;rcases List.mem_append.1 hf with hf | hf
       · exact .inl ⟨f, hf, q⟩
       · rw [List.mem_singleton] at hf; subst hf; exact .inr q.symm
theorem Val.nod {l : List Evt} (h : Val l) : NodE l := h.known.1
theorem Val.has {l : List Evt} (h : Val l) {i : Bi} : Bj (Bw l) i.1 i.2 = true ↔ ∃ e ∈ l, Aj e = i := h.known.2 i
theorem Val.mem {l : List Evt} (h : Val l) {e : Evt} (he : e ∈ l) : ∃ a b, l = a ++ e :: b ∧ Val a ∧ ev e ∧ Acc (Aq a) e := by
 obtain ⟨a, b, rfl⟩ := List.append_of_mem he;have h2 : Val ((a ++ [e]) ++ b) := by rw [List.append_assoc]; exact h
 obtain ⟨h3, h4, h5⟩ := h2.pre.inv;exact ⟨a, b, rfl, h3, h4, F5.1 h5⟩
theorem Tz {l : List Evt} (h : Val l) {e : Evt} (ha : Acc (Aq l) e) {i : Bi} (k : Bj e.dep i.1 i.2 = true) : ∃ f ∈ l, Aj f = i := by
 refine h.has.1 (Apj (fun j hj => ?_) k);have := ha.dep j hj
 rwa [Du] at this
theorem Gl {l : List Evt} (h : Val l) {e : Evt} (ha : Acc (Aq l) e) : ∀ f ∈ l, Aj f ≠ Aj e := fun f hf q => by
 have h1 := h.has.2 ⟨f, hf, q⟩;have h2 := ha.new;rw [Du] at h2;rw [show Bj (Bw l) (Aj e).1 (Aj e).2 = Bj (Bw l) e.rep e.seq from rfl, h2] at h1;cases h1
theorem Aho {e : Evt} {l : List Bi} {n : Int} (h : Eb l n e.dep = true) : ∀ b ∈ l, Bj e.dep b.1 b.2 = true := fun b hb => by
 unfold Eb Gy at h;simp only [Bool.and_eq_true, decide_eq_true_eq] at h;obtain ⟨j, hj⟩ := List.mem_iff_getElem?.1 hb;obtain ⟨hlt, hg⟩ := List.getElem?_eq_some_iff.1 hj;have := (h.2 j hlt).1;rw [hg] at this; exact this
theorem M3 {e : Evt} (h : Bg e = true) : F6 e = true ∧ Cf (Ce e) = true := by
 unfold Bg at h;simp only [Bool.and_eq_true, decide_eq_true_eq] at h;exact ⟨h.2.2.2, h.2.2.1⟩
theorem V4 {e : Evt} (h : Bg e = true) (hk : e.kind = 6 ∨ e.kind = 7) : ∀ b ∈ e.gone.l, Bj e.dep b.1 b.2 = true := by
 have hK := (M3 h).1;rcases hk with k | k
 · rw [Tk k] at hK; simp only [Bool.and_eq_true] at hK; exact Aho hK.2
 · rw [Tj k] at hK; simp only [Bool.and_eq_true] at hK; exact Aho hK.2.1
theorem Ak2 {e : Evt} (h : Bg e = true) (hk : e.kind = 3 ∨ e.kind = 4 ∨ e.kind = 5 ∨ e.kind = 6 ∨ e.kind = 7) : Bj e.dep e.orep e.oseq = true := by
 have hK := (M3 h).1;rcases hk with k | k | k | k | k
 · rw [J0 k] at hK; simp only [Bool.and_eq_true] at hK; exact hK.1
 · rw [Nv k] at hK; simp only [Bool.and_eq_true] at hK; exact hK.1
 · rw [Nu k] at hK; simp only [Bool.and_eq_true] at hK; exact hK.1
 · rw [Tk k] at hK; simp only [Bool.and_eq_true] at hK; exact hK.1
 · rw [Tj k] at hK; simp only [Bool.and_eq_true] at hK; exact hK.1
theorem V3 {e : Evt} (h : Bg e = true) (hk : ¬ (e.kind = 3 ∨ e.kind = 4 ∨ e.kind = 5 ∨ e.kind = 6 ∨ e.kind = 7)) : Aw e = (0, 0) := by
 obtain ⟨b1, b2, b3, b4, b5, b6, b7⟩ := Cc h;have hz := (M3 h).2;have h4 : e.kind = 1 ∨ e.kind = 2 ∨ e.kind = 8 ∨ e.kind = 9 := by omega
 have hz' : Bx e.orep e.oseq = true := by
  rcases h4 with k | k | k | k
  · rw [Ar2 k] at hz; simp only [Ak, Bool.and_eq_true, Bool.or_eq_true, Bool.false_eq_true, false_or] at hz; exact hz.1
  · rw [Ar1 k] at hz; simp only [Ak, Bool.and_eq_true, Bool.or_eq_true, Bool.false_eq_true, false_or] at hz; exact hz.1
  · rw [Awu k] at hz; simp only [Ak, Bool.and_eq_true, Bool.or_eq_true, Bool.false_eq_true, false_or] at hz; exact hz.1
  · rw [Awt k] at hz; simp only [Ak, Bool.and_eq_true, Bool.or_eq_true, Bool.false_eq_true, false_or] at hz; exact hz.1
 obtain ⟨h1, h2⟩ := of_decide_eq_true hz';exact Prod.ext h1 h2
theorem Atv {l : List Evt} {e : Evt} (h : Val l) (ha : Acc (Aq l) e) (obj : Bi) {g : Evt} (hg : g ∈ l ++ [e]) : Hb g obj (Aj e) = false := by
 cases hq : Hb g obj (Aj e) with
 | false => rfl
 | true =>
   unfold Hb at hq;simp only [Bool.and_eq_true, decide_eq_true_eq] at hq;rcases List.mem_append.1 hg with hg | hg
   · obtain ⟨a, b, rfl, h1, _, h3⟩ := h.mem hg;obtain ⟨f, hf, hi⟩ := Tz h1 h3 (V4 h3.ck hq.1 _ hq.2.2);exact absurd hi (Gl h ha f (by simp [hf]))
   · rw [List.mem_singleton] at hg; subst hg;obtain ⟨f, hf, hi⟩ := Tz h ha (V4 ha.ck hq.1 _ hq.2.2);exact absurd hi (Gl h ha f hf)
theorem Aoe {l : List Evt} {e : Evt} (h : Val l) (ha : Acc (Aq l) e) {g : Evt} (hg : g ∈ l ++ [e]) : Aw g ≠ Aj e := fun q => by
 have base := Cc ha.ck;have hne : ∀ {g : Evt}, Bg g = true → Aw g = Aj e → Bj g.dep g.orep g.oseq = true := fun {g} hc q => by
  refine Ak2 hc (Classical.byContradiction fun hk => ?_);have := V3 hc hk;rw [this] at q;have q1 : (0 : Int) = e.rep := congrArg Prod.fst q;have := base.1;omega
 rcases List.mem_append.1 hg with hg | hg
 · obtain ⟨a, b, rfl, h1, _, h3⟩ := h.mem hg;obtain ⟨f, hf, hi⟩ := Tz h1 h3 (i := Aw g) (hne h3.ck q);rw [q] at hi;exact absurd hi (Gl h ha f (by simp [hf]))
 · rw [List.mem_singleton] at hg; subst hg;obtain ⟨f, hf, hi⟩ := Tz h ha (i := Aw g) (hne ha.ck q);rw [q] at hi;exact absurd hi (Gl h ha f hf)
theorem Kq {l : List Evt} : ∀ m : List Evt, NodE m → Dl (Cm l m) ∧ ∀ x, x ∈ Cm l m ↔ ∃ e ∈ m, mkB e = true ∧ x = Cu l e := by
 refine N9 (fun _ => ⟨List.Pairwise.nil, by simp [Cm]⟩) fun m e ih hn => ?_;have hn' : NodE m := by unfold NodE at *; rw [List.map_append] at hn; exact hn.sublist (List.sublist_append_left _ _)
 obtain ⟨h1, h2⟩ := ih hn';have grow : ∀ x : Ent, (∃ f ∈ m ++ [e], mkB f = true ∧ x = Cu l f) ↔ (∃ f ∈ m, mkB f = true ∧ x = Cu l f) ∨ (mkB e = true ∧ x = Cu l e) := fun o => by
  simp only [List.mem_append, List.mem_singleton];constructor
  · rintro ⟨f, hf | rfl, h⟩
    · exact .inl ⟨f, hf, h⟩
    · exact .inr h
  · rintro (⟨f, hf, h⟩ | h)
    · exact ⟨f, .inl hf, h⟩
    · exact ⟨e, .inr rfl, h⟩
 rw [O9];by_cases hm : mkB e = true
 · rw [if_pos hm, Xf h1];have hnew : Hc (Cm l m) (Cu l e).id = none := Fy.2 fun x hx q => by
    obtain ⟨f, hf, _, rfl⟩ := (h2 x).1 hx;unfold NodE at hn;rw [List.map_append, List.nodup_append] at hn;exact hn.2.2 (Aj f) (List.mem_map_of_mem hf) (Aj e) (by simp) q
   have e1 : Aeo (Cm l m) (Cu l e) = N4 (Cm l m) (Cu l e) := by
    unfold Aeo; rw [if_neg (by rw [Ahn.2 hnew]; simp)]
   rw [e1];refine ⟨Up h1 hnew, fun x => ?_⟩;rw [Zz, h2, grow];exact ⟨fun q => q.elim (fun q => .inr ⟨hm, q⟩) .inl, fun q => q.elim .inr fun q => .inl q.2⟩
 · rw [if_neg hm];refine ⟨h1, fun x => ?_⟩;rw [h2, grow];exact ⟨.inl, fun q => q.resolve_right fun q => hm q.1⟩
theorem Ae7 (b : Bi) (x : Ent) : Mv b (Mv b x) = Mv b x := by
 unfold Mv; simp only [Hv, Adz]
theorem X2 (e : Evt) : ∀ (m l : List Ent), Ff e l m = l.map fun x => if m.any (fun y => decide (y.id = x.id) && Eo e y) = true then Mv (Aj e) x else x
 | [], l => by simp [Ff]
 | y :: m, l => by
   have ih := X2 e m (if Eo e y = true then killL l y.id (Aj e) else l);unfold Ff at ih ⊢;simp only [List.foldl_cons];rw [ih];split
   · rename_i hg;unfold killL S4;rw [List.map_map];refine List.map_congr_left fun x hx => ?_;simp only [Function.comp];by_cases hy : x.id = y.id
     · simp only [if_pos hy];have e2 : List.any (y :: m) (fun z => decide (z.id = x.id) && Eo e z) = true := by simp [hy, hg]
       rw [if_pos e2];split
       · exact Ae7 _ _
       · rfl
     · simp only [if_neg hy];have e2 : List.any (y :: m) (fun z => decide (z.id = x.id) && Eo e z) = List.any m (fun z => decide (z.id = x.id) && Eo e z) := by
        rw [List.any_cons, decide_eq_false (fun q : y.id = x.id => hy q.symm), Bool.false_and, Bool.false_or]
       rw [e2]
   · rename_i hg;refine List.map_congr_left fun x hx => ?_;have e2 : List.any (y :: m) (fun z => decide (z.id = x.id) && Eo e z) = List.any m (fun z => decide (z.id = x.id) && Eo e z) := by
      simp [show Eo e y = false by simpa using hg]
     rw [e2]
theorem Apo {e : Evt} {l : List Ent} (hs : Dl l) : Ff e l l = l.map fun x => if Eo e x = true then Mv (Aj e) x else x := by
 rw [X2];refine List.map_congr_left fun x hx => ?_;have : l.any (fun y => decide (y.id = x.id) && Eo e y) = Eo e x := by
  rw [Bool.eq_iff_iff, List.any_eq_true];constructor
  · rintro ⟨y, hy, h⟩;simp only [Bool.and_eq_true, decide_eq_true_eq] at h;have h1 := Vi hs hy;have h2 := Vi hs hx;rw [h.1] at h1;rw [h1] at h2; cases h2;exact h.2
  · exact fun h => ⟨x, hx, by simp [h]⟩
 rw [this]
theorem Avp {l : List Evt} {e : Evt} (h : Val l) (ha : Acc (Aq l) e) (obj : Bi) : byG (l ++ [e]) obj (Aj e) = fun _ => 0 := by
 unfold byG;have : ∀ m : List Evt, (∀ g ∈ m, Hb g obj (Aj e) = false) → m.foldl (fun g f => if Hb f obj (Aj e) = true then A3 g f.rep f.seq else g) (fun _ => 0 : Vc) = fun _ => 0 := fun m hm => by
  induction m with
  | nil => rfl
  | cons g m ih =>
    rw [List.foldl_cons, if_neg (by rw [hm g List.mem_cons_self]; simp)];exact ih fun f hf => hm f (List.mem_cons_of_mem _ hf)
 exact this _ fun g hg => Atv h ha obj hg
theorem Ap9 {l : List Evt} {e : Evt} (h : Val l) (ha : Acc (Aq l) e) : Cu (l ++ [e]) e = E9 e (Er e) := by
 unfold Cu E9; rw [Avp h ha]
theorem Vw (l : List Evt) (e f : Evt) : Cu (l ++ [e]) f = if Hb e (Er f) (Aj f) = true then Mv (Aj e) (Cu l f) else Cu l f := by
 unfold Cu;rw [Qt];split
 · unfold Mv; simp only;rw [show A3 (byG l (Er f) (Aj f)) e.rep e.seq = A3 (byG l (Er f) (Aj f)) (Aj e).1 (Aj e).2 from rfl, Kg]
 · rfl
theorem Vq (l : List Evt) (e f : Evt) (hk : e.kind = 6 ∨ e.kind = 7) : Hb e (Er f) (Aj f) = Eo e (Cu l f) := by
 unfold Hb Eo Cu;simp only [hk, decide_true, Bool.true_and];congr 1;exact decide_eq_decide.2 ⟨Eq.symm, Eq.symm⟩
theorem Akr {l : List Evt} {e : Evt} (h : Val l) (ha : Acc (Aq l) e) :
 Cm (l ++ [e]) (l ++ [e]) = if e.kind = 1 ∨ e.kind = 2 then Qu (Cm l l) (E9 e (Aj e)) else if e.kind = 7 then Qu (Ff e (Cm l l) (Cm l l)) (E9 e (Aw e)) else if e.kind = 6 then Ff e (Cm l l) (Cm l l) else Cm l l := by
 have hn := h.nod;have hn2 : NodE (l ++ [e]) := by
  unfold NodE;rw [List.map_append, List.nodup_append];refine ⟨hn, by simp, fun a hm b hb q => ?_⟩;obtain ⟨f, hf, rfl⟩ := List.mem_map.1 hm;simp at hb;exact Gl h ha f hf (by rw [q, hb])
 obtain ⟨s1, m1⟩ := Kq (l := l) l hn;obtain ⟨s2, m2⟩ := Kq (l := l ++ [e]) (l ++ [e]) hn2;have hlook : ∀ {m : List Ent}, (∀ x ∈ m, ∃ f ∈ l, x.id = Aj f) → Hc m (Aj e) = none := fun hm => Fy.2 fun x hx q => by
  obtain ⟨f, hf, hi⟩ := hm x hx;exact Gl h ha f hf (by rw [← hi, q])
 have hadd : ∀ {m : List Ent} {o : Bi}, Dl m → (∀ x ∈ m, ∃ f ∈ l, x.id = Aj f) → Dl (Qu m (E9 e o)) ∧ ∀ x, x ∈ Qu m (E9 e o) ↔ x = E9 e o ∨ x ∈ m := fun {m o} hs hm => by
  have hl := hlook hm;have e1 : Qu m (E9 e o) = N4 m (E9 e o) := by unfold Qu; rw [if_neg (by rw [show Qc m (E9 e o).id = false from Ahn.2 hl]; simp)]
  rw [e1];exact ⟨Up hs hl, fun x => Zz⟩
 have hold : ∀ x ∈ Cm l l, ∃ f ∈ l, x.id = Aj f := fun x hx => by
  obtain ⟨f, hf, _, rfl⟩ := (m1 x).1 hx; exact ⟨f, hf, rfl⟩
 have hgone := Lo (e := e) s1 (Cm l l);have hgeq := Apo (e := e) s1;have hgold : ∀ x ∈ Ff e (Cm l l) (Cm l l), ∃ f ∈ l, x.id = Aj f := fun x hx => by
  rw [hgeq] at hx;obtain ⟨y, hy, rfl⟩ := List.mem_map.1 hx;obtain ⟨f, hf, hi⟩ := hold y hy;refine ⟨f, hf, ?_⟩;split <;> exact hi
 have mG : (e.kind = 6 ∨ e.kind = 7) → ∀ x, x ∈ Ff e (Cm l l) (Cm l l) ↔ ∃ f ∈ l, mkB f = true ∧ x = Cu (l ++ [e]) f := fun hk x => by
  rw [hgeq, List.mem_map];constructor
  · rintro ⟨y, hy, rfl⟩;obtain ⟨f, hf, hm, rfl⟩ := (m1 y).1 hy;exact ⟨f, hf, hm, by rw [Vw, Vq l e f hk]⟩
  · rintro ⟨f, hf, hm, rfl⟩;exact ⟨Cu l f, (m1 _).2 ⟨f, hf, hm, rfl⟩, by rw [Vw, Vq l e f hk]⟩
 have mN : ¬ (e.kind = 6 ∨ e.kind = 7) → ∀ x, x ∈ Cm l l ↔ ∃ f ∈ l, mkB f = true ∧ x = Cu (l ++ [e]) f := fun hk x => by
  rw [m1];have : ∀ f, Cu (l ++ [e]) f = Cu l f := fun f => by
   rw [Vw, if_neg (by unfold Hb; simp [hk])]
  exact ⟨fun ⟨f, a, b, c⟩ => ⟨f, a, b, by rw [this, c]⟩, fun ⟨f, a, b, c⟩ => ⟨f, a, b, by rw [← this, c]⟩⟩
 have grow : ∀ x : Ent, (∃ f ∈ l ++ [e], mkB f = true ∧ x = Cu (l ++ [e]) f) ↔ (mkB e = true ∧ x = E9 e (Er e)) ∨ (∃ f ∈ l, mkB f = true ∧ x = Cu (l ++ [e]) f) := fun x => by
  rw [← Ap9 h ha];simp only [List.mem_append, List.mem_singleton];constructor
  · rintro ⟨f, hf | rfl, h⟩
    · exact .inr ⟨f, hf, h⟩
    · exact .inl h
  · rintro (h | ⟨f, hf, h⟩)
    · exact ⟨e, .inr rfl, h⟩
    · exact ⟨f, .inl hf, h⟩
 by_cases h12 : e.kind = 1 ∨ e.kind = 2
 · rw [if_pos h12];have hm : mkB e = true := decide_eq_true (by omega);have ho : Er e = Aj e := if_neg (by omega);obtain ⟨a1, a2⟩ := hadd (o := Aj e) s1 hold;refine Kj s2 a1 fun x => ?_;rw [m2, grow, a2, mN (by omega), ho];simp [hm]
 rw [if_neg h12];by_cases h7 : e.kind = 7
 · rw [if_pos h7];have hm : mkB e = true := decide_eq_true (by omega);have ho : Er e = Aw e := if_pos h7;obtain ⟨a1, a2⟩ := hadd (o := Aw e) hgone hgold;refine Kj s2 a1 fun x => ?_;rw [m2, grow, a2, mG (.inr h7), ho];simp [hm]
 rw [if_neg h7];have hm : mkB e = false := decide_eq_false (by omega);by_cases h6 : e.kind = 6
 · rw [if_pos h6];refine Kj s2 hgone fun x => ?_;rw [m2, grow, mG (.inl h6)];simp [hm]
 · rw [if_neg h6];refine Kj s2 s1 fun x => ?_;rw [m2, grow, mN (by omega)];simp [hm]
theorem Nj {l : List Evt} {e : Evt} (h : Val l) (ha : Acc (Aq l) e) : NodE (l ++ [e]) := by
 unfold NodE;rw [List.map_append, List.nodup_append];refine ⟨h.nod, by simp, fun a hm b hb q => ?_⟩;obtain ⟨f, hf, rfl⟩ := List.mem_map.1 hm;simp at hb;exact Gl h ha f hf (by rw [q, hb])
theorem I0 {l : List Evt} (hn : NodE l) {e : Evt} (he : e ∈ l) : F7 l (Aj e) = some e := by
 unfold F7
 induction l with
 | nil => cases he
 | cons f l ih =>
   unfold NodE at hn;rw [List.map_cons, List.nodup_cons] at hn;rw [List.find?_cons];rcases List.mem_cons.1 he with rfl | he
   · simp
   · have : Aj f ≠ Aj e := fun q => hn.1 (q ▸ List.mem_map_of_mem he);rw [decide_eq_false this];exact ih hn.2 he
theorem Ako {l : List Evt} {i : Bi} (t : List Evt) (h : ∃ f ∈ l, Aj f = i) : F7 (l ++ t) i = F7 l i := by
 obtain ⟨f, hf, hi⟩ := h;unfold F7;rw [List.find?_append];cases hq : List.find? (fun e => decide (Aj e = i)) l with
 | some x => rfl
 | none => exact absurd hi (by simpa using List.find?_eq_none.1 hq f hf)
theorem Nq (l : List Evt) (e : Evt) : ∀ m : List Evt, (Cw l m e).vers = Cj l (Aj e) l :=
 N9 rfl fun m f ih => by
  rw [Iz];unfold Dh;split
  · split
    · split <;> exact ih
    · split <;> exact ih
  · exact ih
theorem H1 {l : List Evt} (hn : NodE l) : Ef (Aq l).objs ∧ (Aq l).objs.length ≤ l.length ∧ ∀ o, o ∈ (Aq l).objs ↔ ∃ e ∈ l, (e.kind = 1 ∨ e.kind = 2) ∧ o = Cw l l e := Wb l.length l rfl hn
theorem Aji {l : List Obj} (hs : Ef l) {o : Obj} (h : o ∈ l) : Di l o.id = some o := by
 rw [Vd hs];cases hq : l.find? fun x => decide (x.id = o.id) with
 | none => have := List.find?_eq_none.1 hq o h; simp at this
 | some x =>
   have h1 := List.mem_of_find?_eq_some hq;have h2 : x.id = o.id := by simpa using List.find?_some hq
   have a := Vi (l := l.map obN) hs (List.mem_map_of_mem h1);obtain ⟨j, hj⟩ := List.mem_iff_getElem?.1 h1;obtain ⟨k, hk⟩ := List.mem_iff_getElem?.1 h;have : j = k := by
    rcases Nat.lt_trichotomy j k with q | q | q
    · have := Hf hs hj hk q; rw [h2] at this; exact absurd this E1
    · exact q
    · have := Hf hs hk hj q; rw [h2] at this; exact absurd this E1
   subst this;rw [hj] at hk; exact hk
theorem Vb {l : List Obj} {i : Bi} {o : Obj} (h : Di l i = some o) : o ∈ l ∧ o.id = i := ⟨List.mem_of_getElem? (Fo h).1, (Fo h).2⟩
theorem Qv {l : List Evt} {e : Evt} (h : Val l) (ha : Acc (Aq l) e) (hk : e.kind = 3 ∨ e.kind = 4 ∨ e.kind = 5 ∨ e.kind = 6 ∨ e.kind = 7) : ∃ f ∈ l, (f.kind = 1 ∨ f.kind = 2) ∧ Aj f = Aw e ∧ Di (Aq l).objs (Aw e) = some (Cw l l f) ∧ (Ok e = true → (Cw l l f).dir = false ∧ ¬ Cx (Cj l (Aw e) l) e.base.l) := by
 have hw := ha.why;unfold Pm at hw;rw [if_neg (by omega), if_neg (by omega)] at hw;cases ho : Di (Aq l).objs (Aw e) with
 | none => rw [ho] at hw; cases hw
 | some o =>
   rw [ho] at hw;obtain ⟨h1, h2⟩ := Vb ho;obtain ⟨f, hf, hk12, rfl⟩ := ((H1 h.nod).2.2 o).1 h1;have h2' : Aj f = Aw e := by rw [← Jy l f l]; exact h2
   refine ⟨f, hf, hk12, h2', rfl, fun hwr => ?_⟩;have hk3 := of_decide_eq_true hwr;simp only at hw;rw [if_neg (by omega), if_neg (by omega)] at hw;split at hw
   · cases hw
   · split at hw
     · cases hw
     · rename_i hd hm;rw [Nq, h2'] at hm;exact ⟨by simpa using hd, hm⟩
theorem Ji {l : List Evt} {e : Evt} (h : Val l) (ha : Acc (Aq l) e) (hw : Ok e = true) : ∀ b ∈ e.base.l, ∃ v, Bm (Cj l (Aw e) l) b.1 b.2 = some v ∧ ∃ g ∈ l, Ok g = true ∧ Aw g = Aw e ∧ Aj g = b ∧ v = Fi l l g := fun b hb => by
 have hk3 := of_decide_eq_true hw;obtain ⟨f, hf, hk, hi, ho, hm⟩ := Qv h ha (by omega);obtain ⟨_, hm⟩ := hm hw;cases hv : Bm (Cj l (Aw e) l) b.1 b.2 with
 | none => exact absurd ⟨b, hb, hv⟩ hm
 | some v =>
   obtain ⟨h1, h2⟩ := X5 hv;obtain ⟨g, hg, ⟨hw, ho⟩, rfl⟩ := (Ni l.length l rfl).1 h1;exact ⟨_, rfl, g, hg, hw, ho, Prod.ext h2.1 h2.2, rfl⟩
noncomputable def Yt (l : List Evt) (e : Evt) : List UInt8 := match e.base.l with
 | [] => []
 | b :: _ => Cr l l.length b
theorem V6 {e : Evt} (h : Bg e = true) (hw : Ok e = true) : e.data.length ≤ 200 := by
 have hK := M3 h;have hk := of_decide_eq_true hw;rcases hk with k | k | k
 · have h1 := hK.1;rw [J0 k] at h1;simp only [Bool.and_eq_true, Cl, decide_eq_true_eq] at h1;omega
 · have h1 := hK.2;rw [A1r k] at h1;simp only [Ak, Bool.and_eq_true, Bool.or_eq_true, decide_eq_true_eq, Bool.false_eq_true, false_or, true_or] at h1;have : e.data = [] := h1.2.2.2.2.2.1;rw [this]; simp
 · have h1 := hK.1;rw [Nu k] at h1;simp only [Bool.and_eq_true, Cl, decide_eq_true_eq] at h1;omega
theorem Aik {e : Evt} (h : Bg e = true) (hw : Ok e = true) {was : List UInt8} (hl : was.length ≤ 200) : (Gb e was).length ≤ 200 := by
 have hd := V6 h hw;unfold Gb;split
 · exact hd
 · split
   · unfold Wy; split
     · simp
     · rw [Ac8]; omega
   · unfold Ka; split
     · simp
     · rename_i h; unfold Dx at h; rw [U4]; omega
theorem Nk {l : List Evt} (h : Val l) : ∀ g ∈ l, Ok g = true → (Cr l l.length (Aj g)).length ≤ 200 ∧ ∀ t n, l.length ≤ n → Cr (l ++ t) n (Aj g) = Cr l l.length (Aj g) := by
 induction h with
 | nil => intro g hg; cases hg
 | @snoc l e hl he hw ih =>
   have ha := F5.1 hw;intro g hg hgw;have hlen : (l ++ [e]).length = l.length + 1 := by simp
   rcases List.mem_append.1 hg with hg | hg
   · obtain ⟨h1, h2⟩ := ih g hg hgw;have e1 : Cr (l ++ [e]) (l ++ [e]).length (Aj g) = Cr l l.length (Aj g) := h2 [e] _ (by omega);rw [e1];refine ⟨h1, fun t n hn => ?_⟩;rw [List.append_assoc];exact h2 _ n (by omega)
   · rw [List.mem_singleton] at hg; subst hg;have key : ∀ t n, (l ++ [g]).length ≤ n → Cr ((l ++ [g]) ++ t) n (Aj g) = Gb g (Yt l g) := fun t n hn => by
      obtain ⟨n, rfl⟩ : ∃ k, n = k + 1 := ⟨n - 1, by omega⟩
      simp only [Cr];rw [Ako t ⟨g, by simp, rfl⟩, I0 (Nj hl ha) (by simp)];simp only;congr 1;unfold Yt;cases hb : g.base.l with
      | nil => rfl
      | cons b r =>
        simp only;obtain ⟨v, hv, f, hf, hfw, _, rfl, _⟩ := Ji hl ha hgw b (by rw [hb]; simp);rw [List.append_assoc];exact (ih f hf hfw).2 _ n (by omega)
     have e1 : Cr (l ++ [g]) (l ++ [g]).length (Aj g) = Gb g (Yt l g) := by
      have := key [] (l ++ [g]).length (Nat.le_refl _)
      rwa [List.append_nil] at this
     rw [e1];refine ⟨Aik ha.ck hgw ?_, key⟩;unfold Yt;cases hb : g.base.l with
     | nil => simp
     | cons b r =>
       simp only;obtain ⟨v, hv, f, hf, hfw, _, rfl, _⟩ := Ji hl ha hgw b (by rw [hb]; simp);exact (ih f hf hfw).1
theorem Ak7 {l : List Evt} {e : Evt} (h : Val l) (ha : Acc (Aq l) e) (hw : Ok e = true) : Cr (l ++ [e]) (l ++ [e]).length (Aj e) = Gb e (Yt l e) := by
 rw [show (l ++ [e]).length = l.length + 1 from by simp];simp only [Cr];rw [I0 (Nj h ha) (by simp)];simp only;congr 1;unfold Yt;cases hb : e.base.l with
 | nil => rfl
 | cons b r =>
   simp only;obtain ⟨v, hv, f, hf, hfw, _, rfl, _⟩ := Ji h ha hw b (by rw [hb]; simp);exact (Nk h f hf hfw).2 _ _ (Nat.le_refl _)
theorem Aa5 {l : List Evt} {e : Evt} (h : Val l) {g : Evt} (hg : g ∈ l) (hw : Ok g = true) : Fi (l ++ [e]) (l ++ [e]) g = if Wp e (Aw g) (Aj g) = true then En (Fi l l g) e.rep e.seq else Fi l l g := by
 have hb := (Nk h g hg hw).2 [e] (l ++ [e]).length (by simp);unfold Fi;rw [hb, Acw];split <;> rfl
theorem Atw {l : List Evt} {e : Evt} (h : Val l) (ha : Acc (Aq l) e) (obj : Bi) {g : Evt} (hg : g ∈ l ++ [e]) : Wp g obj (Aj e) = false := by
 cases hq : Wp g obj (Aj e) with
 | false => rfl
 | true =>
   unfold Wp at hq;simp only [Bool.and_eq_true, decide_eq_true_eq] at hq;rcases List.mem_append.1 hg with hg | hg
   · obtain ⟨a, b, rfl, h1, _, h3⟩ := h.mem hg;obtain ⟨_, _, f, hf, _, _, hi, _⟩ := Ji h1 h3 hq.1 _ hq.2.2;exact absurd hi (Gl h ha f (by simp [hf]))
   · rw [List.mem_singleton] at hg; subst hg;obtain ⟨_, _, f, hf, _, _, hi, _⟩ := Ji h ha hq.1 _ hq.2.2;exact absurd hi (Gl h ha f hf)
theorem Auu {l : List Evt} {e : Evt} (h : Val l) (ha : Acc (Aq l) e) (obj : Bi) : gvG (l ++ [e]) obj (Aj e) = fun _ => 0 := by
 unfold gvG;have : ∀ m : List Evt, (∀ g ∈ m, Wp g obj (Aj e) = false) → m.foldl (fun a g => if Wp g obj (Aj e) = true then A3 a g.rep g.seq else a) (fun _ => 0 : Vc) = fun _ => 0 := fun m hm => by
  induction m with
  | nil => rfl
  | cons g m ih =>
    rw [List.foldl_cons, if_neg (by rw [hm g List.mem_cons_self]; simp)];exact ih fun f hf => hm f (List.mem_cons_of_mem _ hf)
 exact this _ fun g hg => Atw h ha obj hg
theorem D9 {l : List Evt} (h : NodE l) (obj : Bi) : Ci (Cj l obj l) ∧ (Cj l obj l).length ≤ l.length ∧ ∀ v, v ∈ Cj l obj l ↔ ∃ e ∈ l, (Ok e = true ∧ Aw e = obj) ∧ v = Fi l l e := ⟨(Io l.length l rfl h).1, (Io l.length l rfl h).2, fun v => Ni l.length l rfl⟩
theorem Nh {l : List Evt} {e : Evt} (h : Val l) (ha : Acc (Aq l) e) {obj : Bi} (hx : ¬ (Ok e = true ∧ Aw e = obj)) : Cj (l ++ [e]) obj (l ++ [e]) = Cj l obj l := by
 obtain ⟨s1, _, m1⟩ := D9 h.nod obj;obtain ⟨s2, _, m2⟩ := D9 (Nj h ha) obj;refine Q8 s2 s1 fun v => ?_;have key : ∀ g ∈ l, Ok g = true ∧ Aw g = obj → Fi (l ++ [e]) (l ++ [e]) g = Fi l l g := fun g hg ⟨hw, ho⟩ => by
  rw [Aa5 h hg hw, if_neg];unfold Wp;rw [ho];simp only [Bool.and_eq_true, decide_eq_true_eq];exact fun q => hx ⟨q.1, q.2.1⟩
 rw [m1, m2];constructor
 · rintro ⟨g, hg, hc, rfl⟩;rcases List.mem_append.1 hg with hg | hg
   · exact ⟨g, hg, hc, key g hg hc⟩
   · rw [List.mem_singleton] at hg; subst hg; exact absurd hc hx
 · rintro ⟨g, hg, hc, rfl⟩;exact ⟨g, List.mem_append_left _ hg, hc, (key g hg hc).symm⟩
theorem Ak9 {l : List Evt} {e : Evt} (h : Val l) (ha : Acc (Aq l) e) (hw : Ok e = true) : Fc (Cj l (Aw e) l) e = Gb e (Yt l e) := by
 have hd : ∀ v ∈ Cj l (Aw e) l, v.data.length ≤ 200 := fun v hv => by
  obtain ⟨g, hg, hc, rfl⟩ := ((D9 h.nod (Aw e)).2.2 v).1 hv;exact (Nk h g hg hc.1).1
 have hk := of_decide_eq_true hw;have hf := V5 ha.ck hk hd;have hwas : (Dp (Cj l (Aw e) l) (Ej e).1 (Ej e).2).1 = Yt l e := by
  unfold Ej Yt;cases hb : e.base.l with
  | nil => simp only; rw [Qp ⟨rfl, rfl⟩]
  | cons b r =>
    simp only;obtain ⟨v, hv, f, hf, hfw, _, rfl, rfl⟩ := Ji h ha hw b (by rw [hb]; simp);obtain ⟨a, c, _, _, _, h3⟩ := h.mem hf;have hbp := Cc h3.ck;have hbp1 : 1 ≤ f.rep := hbp.1;rw [Lv (fun q => by have := q.1; simp only at this; omega) hv];rfl
 have hwl : (Dp (Cj l (Aw e) l) (Ej e).1 (Ej e).2).1.length ≤ 200 := X8 hd _ _;unfold Fc Gb;rw [hwas] at hwl ⊢;by_cases h5 : e.kind = 5
 · rw [if_pos h5, if_pos h5]
 rw [if_neg h5, if_neg h5];obtain ⟨o1, o2⟩ := hf.off h5;by_cases h4 : e.kind = 4
 · rw [if_pos h4, if_pos h4];unfold Wy; rw [if_neg (by omega)]
 · rw [if_neg h4, if_neg h4];have hl := hf.len (by omega);unfold Ka; rw [if_neg (by unfold Dx; omega)]
theorem Al3 {l : List Evt} {e : Evt} (h : Val l) (ha : Acc (Aq l) e) (hw : Ok e = true) : Cj (l ++ [e]) (Aw e) (l ++ [e]) = Fg (Cj l (Aw e) l) e.base.l (Q2 e.rep e.seq (Fc (Cj l (Aw e) l) e)) := by
 obtain ⟨s1, _, m1⟩ := D9 h.nod (Aw e);obtain ⟨s2, _, m2⟩ := D9 (Nj h ha) (Aw e);have hnew : Bm (Cj l (Aw e) l) e.rep e.seq = none := Lt.2 fun v hv ⟨h1, h2⟩ => by
  obtain ⟨g, hg, _, rfl⟩ := (m1 v).1 hv;exact Gl h ha g hg (Prod.ext h1 h2)
 have hE : Fi (l ++ [e]) (l ++ [e]) e = Q2 e.rep e.seq (Fc (Cj l (Aw e) l) e) := by
  unfold Fi Q2;rw [Ak7 h ha hw, Auu h ha, Ak9 h ha hw]
 refine Q8 s2 (Adr s1 hnew) fun v => ?_;rw [m2, Aoq, ← hE];have key : ∀ g ∈ l, Ok g = true ∧ Aw g = Aw e → Fi (l ++ [e]) (l ++ [e]) g = Od e.base.l e.rep e.seq (Fi l l g) := fun g hg ⟨hgw, ho⟩ => by
  rw [Aa5 h hg hgw];unfold Od;have : Wp e (Aw g) (Aj g) = decide (((Fi l l g).rep, (Fi l l g).seq) ∈ e.base.l) := by
   unfold Wp;rw [hw, ho];simp; rfl
  rw [this];by_cases hin : ((Fi l l g).rep, (Fi l l g).seq) ∈ e.base.l
  · rw [if_pos (decide_eq_true hin), if_pos hin]
  · rw [if_neg (by simpa using hin), if_neg hin]
 constructor
 · rintro ⟨g, hg, hc, rfl⟩;rcases List.mem_append.1 hg with hg | hg
   · exact .inr ⟨Fi l l g, (m1 _).2 ⟨g, hg, hc, rfl⟩, key g hg hc⟩
   · rw [List.mem_singleton] at hg; subst hg; exact .inl rfl
 · rintro (rfl | ⟨y, hy, rfl⟩)
   · exact ⟨e, by simp, ⟨hw, rfl⟩, rfl⟩
   · obtain ⟨g, hg, hc, rfl⟩ := (m1 y).1 hy;exact ⟨g, List.mem_append_left _ hg, hc, (key g hg hc).symm⟩
theorem Ad5 (e f : Evt) (o : Obj) (v : List Ver) : Dh e { o with vers := v } f = { Dh e o f with vers := v } := by
 unfold Dh;by_cases h1 : Aw f = Aj e
 · rw [if_pos h1, if_pos h1];by_cases h7 : f.kind = 7
   · rw [if_pos h7, if_pos h7];by_cases hl : Bp o.last.1 o.last.2 f.rep f.seq = true
     · rw [if_pos hl, if_pos hl]
     · rw [if_neg hl, if_neg hl]
   · rw [if_neg h7, if_neg h7];by_cases h6 : f.kind = 6
     · rw [if_pos h6, if_pos h6]
     · rw [if_neg h6, if_neg h6]
 · rw [if_neg h1, if_neg h1]
theorem Atr (l L : List Evt) (e : Evt) : ∀ m : List Evt, Cw L m e = { Cw l m e with vers := Cj L (Aj e) L } :=
 N9 rfl fun m f ih => by
  rw [Iz, Iz, ih, Ad5]
theorem An7 (l : List Evt) (e f : Evt) : Cw (l ++ [e]) (l ++ [e]) f = { Dh f (Cw l l f) e with vers := Cj (l ++ [e]) (Aj f) (l ++ [e]) } := by
 rw [Atr l, Iz]
theorem Ad6 (e f : Evt) (o : Obj) : (Dh e o f).id = o.id ∧ (Dh e o f).dir = o.dir ∧ (Dh e o f).vers = o.vers := by
 unfold Dh;split
 · split
   · split <;> exact ⟨rfl, rfl, rfl⟩
   · split <;> exact ⟨rfl, rfl, rfl⟩
 · exact ⟨rfl, rfl, rfl⟩
theorem Ab9 {l : List Evt} {e : Evt} (h : Val l) (ha : Acc (Aq l) e) : Cw (l ++ [e]) (l ++ [e]) e = Mr e := by
 have hv : Cj (l ++ [e]) (Aj e) (l ++ [e]) = [] := by
  refine List.eq_nil_iff_forall_not_mem.2 fun v hv => ?_;obtain ⟨g, hg, hc, _⟩ := ((D9 (Nj h ha) (Aj e)).2.2 v).1 hv;exact Aoe h ha hg hc.2
 unfold Cw Mr;rw [hv];have : ∀ (m : List Evt) (o : Obj), (∀ g ∈ m, Aw g ≠ Aj e) → m.foldl (Dh e) o = o := fun m => by
  induction m with
  | nil => intro o _; rfl
  | cons g m ih =>
    intro o hm;rw [List.foldl_cons, show Dh e o g = o from if_neg (hm g List.mem_cons_self)];exact ih o fun f hf => hm f (List.mem_cons_of_mem _ hf)
 exact this _ _ fun g hg => Aoe h ha hg
def GO (e : Evt) (x : Obj) : Obj :=
 if e.kind = 7 then Vg e x
 else if e.kind = 6 then { x with seen := Ck x.seen (A3 e.dep e.rep e.seq) }
 else { x with vers := Fg x.vers e.base.l (Q2 e.rep e.seq (Fc x.vers e)) }
theorem Aol (e : Evt) (x : Obj) : (Vg e x).id = x.id := by unfold Vg; split <;> rfl
theorem A5y (e : Evt) (x : Obj) : (GO e x).id = x.id := by
 unfold GO;split
 · exact Aol e x
 · split <;> rfl
theorem Amy {l : List Obj} (hs : Ef l) {i : Bi} {o : Obj} (h : Di l i = some o) (g : Obj → Obj) : l.set (Ca l i) (g o) = l.map fun x => if x.id = i then g x else x := by
 obtain ⟨h1, h2⟩ := Fo h;apply List.ext_getElem?;intro j;rw [List.getElem?_map];by_cases hj : Ca l i = j
 · subst hj;rw [List.getElem?_set_self (List.getElem?_eq_some_iff.1 h1).1, h1];simp only [Option.map_some];rw [if_pos h2]
 · rw [List.getElem?_set_ne hj];cases hy : l[j]? with
   | none => rfl
   | some y =>
     simp only [Option.map_some];rw [if_neg];intro q;rcases Nat.lt_or_gt_of_ne hj with k | k
     · have := Hf hs h1 hy k; rw [h2, q] at this; exact E1 this
     · have := Hf hs hy h1 k; rw [h2, q] at this; exact E1 this
theorem Au9 {s : St} (hs : Ef s.objs) {e : Evt} (hk : e.kind = 3 ∨ e.kind = 4 ∨ e.kind = 5 ∨ e.kind = 6 ∨ e.kind = 7) {o : Obj} (h : Di s.objs (Aw e) = some o) : (doS s e).objs = s.objs.map fun x => if x.id = Aw e then GO e x else x := by
 unfold doS;rw [if_neg (by omega), if_neg (by omega), if_neg (by omega), h, ← Amy hs h (GO e)];simp only;unfold GO;by_cases h7 : e.kind = 7
 · rw [if_pos h7, if_pos h7]; rfl
 rw [if_neg h7, if_neg h7];by_cases h6 : e.kind = 6
 · rw [if_pos h6, if_pos h6]; rfl
 · rw [if_neg h6, if_neg h6]; rfl
theorem Aio {l : List Obj} (hs : Ef l) {g : Obj → Obj} (hg : ∀ x, (g x).id = x.id) : Ef (l.map g) := by
 rw [Ur] at *;rw [List.pairwise_map];exact hs.imp fun {a b} h => by rw [hg, hg]; exact h
theorem Ax6 {l : List Evt} (h : Val l) {f : Evt} (hf : f ∈ l) : Aj f ≠ (0, 0) := fun q => by
 obtain ⟨a, b, _, _, _, h3⟩ := h.mem hf;have h1 : 1 ≤ f.rep := (Cc h3.ck).1;have h2 : f.rep = 0 := congrArg Prod.fst q;omega
theorem Ahb {l : List Evt} {e : Evt} (h : Val l) (ha : Acc (Aq l) e) {f : Evt} (hf : f ∈ l) :
 Cw (l ++ [e]) (l ++ [e]) f = if (e.kind = 3 ∨ e.kind = 4 ∨ e.kind = 5 ∨ e.kind = 6 ∨ e.kind = 7) ∧ Aj f = Aw e then GO e (Cw l l f) else Cw l l f := by
 rw [An7];have hov := Nq l f l;by_cases hk : e.kind = 3 ∨ e.kind = 4 ∨ e.kind = 5 ∨ e.kind = 6 ∨ e.kind = 7;rotate_left
 · rw [if_neg fun q => hk q.1];have hw : Ok e = false := decide_eq_false (by omega);rw [Nh h ha (fun q => by rw [hw] at q; simp at q), ← hov];have h0 := V3 ha.ck hk;have : Dh f (Cw l l f) e = Cw l l f := if_neg (by rw [h0]; exact fun q => Ax6 h hf q.symm);rw [this]
 by_cases hi : Aj f = Aw e;rotate_left
 · rw [if_neg fun q => hi q.2, Nh h ha (fun q => hi q.2.symm), ← hov];have : Dh f (Cw l l f) e = Cw l l f := if_neg fun q => hi q.symm;rw [this]
 rw [if_pos ⟨hk, hi⟩];unfold Dh GO;rw [if_pos hi.symm];by_cases h7 : e.kind = 7
 · have hw : Ok e = false := decide_eq_false (by omega);rw [if_pos h7, if_pos h7, Nh h ha (fun q => by rw [hw] at q; simp at q), ← hov];unfold Vg;split <;> rfl
 rw [if_neg h7, if_neg h7];by_cases h6 : e.kind = 6
 · have hw : Ok e = false := decide_eq_false (by omega);rw [if_pos h6, if_pos h6, Nh h ha (fun q => by rw [hw] at q; simp at q), ← hov]
 · rw [if_neg h6, if_neg h6];have hw : Ok e = true := decide_eq_true (by omega);rw [hi, Al3 h ha hw, hov, hi]
theorem Ajg {l : List Evt} {e : Evt} (h : Val l) (ha : Acc (Aq l) e) : (Aq (l ++ [e])).objs = (G9 (Aq l) e).objs := by
 obtain ⟨s1, _, m1⟩ := H1 h.nod;obtain ⟨s2, _, m2⟩ := H1 (Nj h ha);have hkn : (G3 (Aq l) e).objs = (Aq l).objs := rfl;by_cases hk : e.kind = 3 ∨ e.kind = 4 ∨ e.kind = 5 ∨ e.kind = 6 ∨ e.kind = 7
 · obtain ⟨f0, hf0, _, _, ho, _⟩ := Qv h ha hk;have hd := Au9 (s := G3 (Aq l) e) s1 hk ho;unfold G9;rw [hd];refine Nn s2 (Aio s1 fun x => by split; exact A5y e x; rfl) fun x => ?_;rw [m2, List.mem_map];have key : ∀ f ∈ l, Cw (l ++ [e]) (l ++ [e]) f = if (Cw l l f).id = Aw e then GO e (Cw l l f) else Cw l l f := fun f hf => by
    rw [Ahb h ha hf, Jy];by_cases hi : Aj f = Aw e
    · rw [if_pos ⟨hk, hi⟩, if_pos hi]
    · rw [if_neg fun q => hi q.2, if_neg hi]
   constructor
   · rintro ⟨f, hf, hc, rfl⟩;rcases List.mem_append.1 hf with hf | hf
     · exact ⟨Cw l l f, (m1 _).2 ⟨f, hf, hc, rfl⟩, (key f hf).symm⟩
     · rw [List.mem_singleton] at hf; subst hf; omega
   · rintro ⟨y, hy, rfl⟩;obtain ⟨f, hf, hc, rfl⟩ := (m1 y).1 hy;exact ⟨f, List.mem_append_left _ hf, hc, (key f hf).symm⟩
 have key : ∀ f ∈ l, Cw (l ++ [e]) (l ++ [e]) f = Cw l l f := fun f hf => by
  rw [Ahb h ha hf, if_neg fun q => hk q.1]
 have hb := Cc ha.ck;obtain ⟨_, _, _, _, _, b6, b7⟩ := hb;by_cases h12 : e.kind = 1 ∨ e.kind = 2
 · have hd : (G9 (Aq l) e).objs = Ll (Aq l).objs (Mr e) := by
    unfold G9 doS;rw [if_neg (by omega), if_neg (by omega), if_pos h12]; rfl
   rw [hd];have hne : ∀ x ∈ (Aq l).objs, x.id ≠ (Mr e).id := fun x hx q => by
    obtain ⟨f, hf, hc, rfl⟩ := (m1 x).1 hx;rw [Jy] at q;exact Gl h ha f hf q
   refine Nn s2 (Xb s1 hne) fun x => ?_;rw [m2, Acb];constructor
   · rintro ⟨f, hf, hc, rfl⟩;rcases List.mem_append.1 hf with hf | hf
     · exact .inr ((m1 _).2 ⟨f, hf, hc, key f hf⟩)
     · rw [List.mem_singleton] at hf; subst hf; exact .inl (Ab9 h ha)
   · rintro (rfl | hx)
     · exact ⟨e, by simp, h12, (Ab9 h ha).symm⟩
     · obtain ⟨f, hf, hc, rfl⟩ := (m1 x).1 hx;exact ⟨f, List.mem_append_left _ hf, hc, (key f hf).symm⟩
 · have hd : (G9 (Aq l) e).objs = (Aq l).objs := by
    unfold G9 doS;by_cases h8 : e.kind = 8
    · rw [if_pos h8]; rfl
    · rw [if_neg h8, if_pos (by omega)]; rfl
   rw [hd];refine Nn s2 s1 fun x => ?_;rw [m2, m1];constructor
   · rintro ⟨f, hf, hc, rfl⟩;rcases List.mem_append.1 hf with hf | hf
     · exact ⟨f, hf, hc, key f hf⟩
     · rw [List.mem_singleton] at hf; subst hf; exact absurd hc h12
   · rintro ⟨f, hf, hc, rfl⟩;exact ⟨f, List.mem_append_left _ hf, hc, (key f hf).symm⟩
end Go.Proofs.YthhomcfimdkfhaaGreat.Fw
namespace Go.Proofs.YthhomcfimdkfhaaGreat.Fw
open Go.RowKit Go.Proofs
theorem St.eq {a b : St} (h1 : a.known = b.known) (h2 : a.objs = b.objs) (h3 : a.ents = b.ents) (h4 : a.wards = b.wards) (h5 : a.ret = b.ret) : a = b := by
 cases a; cases b; simp only at h1 h2 h3 h4 h5; subst h1 h2 h3 h4 h5; rfl
theorem A41 (l l' : List Evt) : ∀ m : List Evt, (Et l m).1.wards = (Et l' m).1.wards ∧ (Et l m).1.ret = (Et l' m).1.ret ∧ (Et l m).2 = (Et l' m).2 :=
 N9 ⟨rfl, rfl, rfl⟩ fun m e ⟨h1, h2, h3⟩ => by
  rw [Ho, Ho];unfold Ft;by_cases k12 : e.kind = 1 ∨ e.kind = 2
  · rw [if_pos k12, if_pos k12]; exact ⟨h1, h2, h3⟩
  rw [if_neg k12, if_neg k12];by_cases k8 : e.kind = 8
  · rw [if_pos k8, if_pos k8, h3];split
    · exact ⟨by simp only [I9, h1], h2, by simp only [h3]⟩
    · exact ⟨h1, h2, h3⟩
  rw [if_neg k8, if_neg k8];by_cases k9 : e.kind = 9
  · rw [if_pos k9, if_pos k9]; exact ⟨h1, by simp only [Px, h2], h3⟩
  rw [if_neg k9, if_neg k9]; exact ⟨h1, h2, h3⟩
theorem Ah9 {a b : Vc} {r : Int} {q : Nat} {i : Nat} (h : ∀ i, a i ≤ b i) : A3 a r q i ≤ A3 b r q i := by
 by_cases hr : 1 ≤ r ∧ r ≤ 8
 · rw [E5 hr, E5 hr]; have := h i; split <;> omega
 · unfold A3; rw [if_neg hr, if_neg hr]; exact h i
theorem Ajv (L : List Evt) : ∀ (m : List Evt) (i : Nat), (Et L m).2 i ≤ Bw m i :=
 N9 (fun i => Nat.le_refl _) fun m e ih i => by
  rw [Ho, Jz];unfold Ft;split
  · exact Nat.le_trans (ih i) (Ys i)
  · split
    · split
      · exact Ah9 ih
      · exact Nat.le_trans (ih i) (Ys i)
    · split <;> exact Nat.le_trans (ih i) (Ys i)
theorem Aqg (s : St) (e : Evt) : (doS s e).known = s.known := by
 unfold doS;split
 · rfl
 · split
   · rfl
   · split
     · rfl
     · split
       · rfl
       · split
         · rfl
         · split <;> rfl
theorem Pe {l : List Evt} {e : Evt} (h : Val l) (ha : Acc (Aq l) e) : Aq (l ++ [e]) = G9 (Aq l) e := by
 obtain ⟨n1, n2, n3⟩ := Wm ha;obtain ⟨_, _, _, _, _, b6, b7⟩ := Cc ha.ck;rw [Du] at n3;have hb : Aq (l ++ [e]) = (Ft (l ++ [e]) (Et (l ++ [e]) l) e).1 := by
  show (Et (l ++ [e]) (l ++ [e])).1 = _;rw [Ho]
 obtain ⟨w1, w2, w3⟩ := A41 (l ++ [e]) l l;have hen := Akr h ha;rw [← I3 (l ++ [e]), ← I3 l] at hen;refine St.eq ?_ (Ajg h ha) ?_ ?_ ?_
 · rw [Du, Jz];unfold G9; rw [Aqg];show _ = A3 (Aq l).known e.rep e.seq;rw [Du]
 · rw [hen];unfold G9 doS;by_cases h8 : e.kind = 8
   · rw [if_pos h8, if_neg (by omega), if_neg (by omega), if_neg (by omega)]; rfl
   rw [if_neg h8];by_cases h9 : e.kind = 9
   · rw [if_pos h9, if_neg (by omega), if_neg (by omega), if_neg (by omega)]; rfl
   rw [if_neg h9];by_cases h12 : e.kind = 1 ∨ e.kind = 2
   · rw [if_pos h12, if_pos h12]; rfl
   rw [if_neg h12, if_neg h12];obtain ⟨f0, hf0, _, _, ho, _⟩ := Qv h ha (by omega);rw [show Di (G3 (Aq l) e).objs (Aw e) = some (Cw l l f0) from ho];simp only;by_cases h7 : e.kind = 7
   · rw [if_pos h7, if_pos h7]; rfl
   rw [if_neg h7, if_neg h7];by_cases h6 : e.kind = 6
   · rw [if_pos h6, if_pos h6]; rfl
   · rw [if_neg h6, if_neg h6]; rfl
 · rw [hb];unfold G9 doS Ft;by_cases h8 : e.kind = 8
   · have hlt : Ec (Et (l ++ [e]) l).2 e.rep < e.seq := by
      unfold Ec; rw [if_pos ⟨n1, n2⟩, w3];have := Ajv l l (e.rep - 1).toNat;omega
     rw [if_pos h8, if_neg (by omega), if_pos h8, if_pos hlt];simp only [I9, w1]; rfl
   rw [if_neg h8, if_neg h8];by_cases h9 : e.kind = 9
   · rw [if_pos h9, if_neg (by omega), if_pos h9];simp only [Px, w1]; rfl
   rw [if_neg h9, if_neg h9];by_cases h12 : e.kind = 1 ∨ e.kind = 2
   · rw [if_pos h12, if_pos h12]; simp only [w1]; rfl
   rw [if_neg h12, if_neg h12];obtain ⟨f0, hf0, _, _, ho, _⟩ := Qv h ha (by omega);rw [show Di (G3 (Aq l) e).objs (Aw e) = some (Cw l l f0) from ho];simp only;rw [w1];split
   · rfl
   · split <;> rfl
 · rw [hb];unfold G9 doS Ft;by_cases h8 : e.kind = 8
   · rw [if_pos h8, if_neg (by omega), if_pos h8];split
     · simp only [I9, w2]; rfl
     · simp only [I9, w2]; rfl
   rw [if_neg h8, if_neg h8];by_cases h9 : e.kind = 9
   · rw [if_pos h9, if_neg (by omega), if_pos h9];simp only [Px, w2]; rfl
   rw [if_neg h9, if_neg h9];by_cases h12 : e.kind = 1 ∨ e.kind = 2
   · rw [if_pos h12, if_pos h12]; simp only [w2]; rfl
   rw [if_neg h12, if_neg h12];obtain ⟨f0, hf0, _, _, ho, _⟩ := Qv h ha (by omega);rw [show Di (G3 (Aq l) e).objs (Aw e) = some (Cw l l f0) from ho];simp only;rw [w2];split
   · rfl
   · split <;> rfl
theorem Td {l : List Evt} {e : Evt} (h : Val l) (hw : Ga (Aq l) e = 0) : Abv (Aq l) e = Aq (l ++ [e]) := by
 unfold Abv; rw [if_pos hw, Pe h (F5.1 hw)]
theorem Oo {l : List Evt} (h : Val l) (hn : l.length ≤ 400) : StIn (Aq l) := by
 obtain ⟨s1, l1, m1⟩ := H1 h.nod;have hv : ∀ o ∈ (Aq l).objs, ∃ f ∈ l, o.vers = Cj l (Aj f) l := fun o ho => by
  obtain ⟨f, hf, _, rfl⟩ := (m1 o).1 ho;exact ⟨f, hf, Nq l f l⟩
 have hs := (Kq (l := l) l h.nod).1;refine ⟨⟨⟨by omega, fun o ho => ?_, ?_⟩, s1, ?_⟩, fun o ho => ?_, fun o ho v hq => ?_, fun o ho v hq => ?_⟩
 · obtain ⟨f, hf, e⟩ := hv o ho;rw [e]; have := (D9 h.nod (Aj f)).2.1; omega
 · rw [I3]; have := R0 l l.length l rfl; omega
 · rw [I3]; exact hs
 · obtain ⟨f, hf, e⟩ := hv o ho;rw [e]; exact (D9 h.nod (Aj f)).1
 · obtain ⟨f, hf, e⟩ := hv o ho;rw [e] at hq;obtain ⟨g, hg, hc, rfl⟩ := ((D9 h.nod (Aj f)).2.2 v).1 hq;exact (Nk h g hg hc.1).1
 · obtain ⟨f, hf, e⟩ := hv o ho;rw [e] at hq;obtain ⟨g, hg, hc, rfl⟩ := ((D9 h.nod (Aj f)).2.2 v).1 hq;rw [Du];exact h.has.2 ⟨g, hg, rfl⟩
theorem V2 {e : Evt} (h : Bg e = true) (hw : Ok e = false) : e.base.l = [] ∧ e.data = [] := by
 obtain ⟨b1, b2, b3, b4, b5, b6, b7⟩ := Cc h;have hz := (M3 h).2;have hk : ¬ (e.kind = 3 ∨ e.kind = 4 ∨ e.kind = 5) := of_decide_eq_false hw;have h4 : e.kind = 1 ∨ e.kind = 2 ∨ e.kind = 6 ∨ e.kind = 7 ∨ e.kind = 8 ∨ e.kind = 9 := by omega
 rcases h4 with k | k | k | k | k | k
 · skip
   rw [Ar2 k] at hz; simp only [Ak, Bool.and_eq_true, Bool.or_eq_true, decide_eq_true_eq, Bool.false_eq_true, false_or, true_or, true_and] at hz;exact ⟨List.length_eq_zero_iff.1 (by omega), hz.2.2.2.2.1⟩
 · skip
   rw [Ar1 k] at hz; simp only [Ak, Bool.and_eq_true, Bool.or_eq_true, decide_eq_true_eq, Bool.false_eq_true, false_or, true_or, true_and] at hz;exact ⟨List.length_eq_zero_iff.1 (by omega), hz.2.2.2.2.1⟩
 · skip
   rw [A1q k] at hz; simp only [Ak, Bool.and_eq_true, Bool.or_eq_true, decide_eq_true_eq, Bool.false_eq_true, false_or, true_or, true_and] at hz;exact ⟨List.length_eq_zero_iff.1 (by omega), hz.2.2.2.1⟩
 · skip
   rw [A1p k] at hz; simp only [Ak, Bool.and_eq_true, Bool.or_eq_true, decide_eq_true_eq, Bool.false_eq_true, false_or, true_or, true_and] at hz;exact ⟨List.length_eq_zero_iff.1 (by omega), hz.2.2.1⟩
 · skip
   rw [Awu k] at hz; simp only [Ak, Bool.and_eq_true, Bool.or_eq_true, decide_eq_true_eq, Bool.false_eq_true, false_or, true_or, true_and] at hz;exact ⟨List.length_eq_zero_iff.1 (by omega), hz.2.2.2.2.2.1⟩
 · skip
   rw [Awt k] at hz; simp only [Ak, Bool.and_eq_true, Bool.or_eq_true, decide_eq_true_eq, Bool.false_eq_true, false_or, true_or, true_and] at hz;exact ⟨List.length_eq_zero_iff.1 (by omega), hz.2.2.2.2.2.1⟩
def rkL (l : List Evt) (e : Evt) : Nat := l.findIdx fun x => decide (Aj x = Aj e)
theorem Ar6 {l : List Evt} (h : Val l) (hn : l.length ≤ 400) : EvsOk l (rkL l) := by
 refine ⟨hn, h.nod, fun e he => ?_, fun e he h5 b t hb e' hf => ?_, fun e he => ?_⟩
 · obtain ⟨a, c, _, _, hv, h3⟩ := h.mem he;refine ⟨hv, ?_⟩;by_cases hw : Ok e = true
   · have := V6 h3.ck hw; omega
   · rw [(V2 h3.ck (by simpa using hw)).2]; simp
 · obtain ⟨a, c, rfl, h1, hv, h3⟩ := h.mem he;by_cases hw : Ok e = true
   · obtain ⟨_, _, g, hg, _, _, hi, _⟩ := Ji h1 h3 hw b (by rw [hb]; simp);have hi' : Aj e' = b := by simpa using List.find?_some hf
     have e1 : rkL (a ++ e :: c) e' < a.length := by
      unfold rkL;rw [List.findIdx_append];have : List.findIdx (fun x => decide (Aj x = Aj e')) a < a.length := List.findIdx_lt_length_of_exists ⟨g, hg, by simp [hi, hi']⟩;rw [if_pos this]; exact this
     have e2 : a.length ≤ rkL (a ++ e :: c) e := by
      unfold rkL;rw [List.findIdx_append];have : ¬ List.findIdx (fun x => decide (Aj x = Aj e)) a < a.length := fun q => by
       have := List.findIdx_getElem (w := q);simp only [decide_eq_true_eq] at this;exact Gl h1 h3 _ (List.getElem_mem _) this
      rw [if_neg this]; omega
     omega
   · rw [(V2 h3.ck (by simpa using hw)).1] at hb; cases hb
 · exact List.findIdx_lt_length_of_exists ⟨e, he, by simp⟩
theorem Yu {l : List Evt} (h : Val l) : ∀ e ∈ l, 1 ≤ e.rep ∧ e.rep ≤ 8 := fun e he => by
 obtain ⟨a, c, _, _, hv, h3⟩ := h.mem he;exact ⟨(Cc h3.ck).1, (Cc h3.ck).2.1⟩
open Classical in
noncomputable def Al8 (out : List Evt) (e : Evt) : List Evt := if Ga (Aq out) e = 0 then out ++ [e] else out
noncomputable def L4 (l : List Evt) : List Evt := l.foldl Al8 []
theorem Uh (l : List Evt) (e : Evt) : L4 (l ++ [e]) = Al8 (L4 l) e := by simp [L4]
theorem Aba : ∀ l : List Evt, (∀ e ∈ l, ev e) → Val (L4 l) ∧ (L4 l).length ≤ l.length ∧ ∀ e ∈ L4 l, e ∈ l :=
 N9 (fun _ => ⟨Val.nil, Nat.le_refl _, fun e he => by cases he⟩) fun l e ih hl => by
  obtain ⟨h1, h2, h3⟩ := ih fun f hf => hl f (List.mem_append_left _ hf);rw [Uh];unfold Al8;split
  · rename_i hw;refine ⟨Val.snoc h1 (hl e (by simp)) hw, by simp only [List.length_append, List.length_singleton]; omega, fun f hf => ?_⟩;rcases List.mem_append.1 hf with hf | hf
    · exact List.mem_append_left _ (h3 f hf)
    · exact List.mem_append_right _ hf
  · exact ⟨h1, by simp only [List.length_append, List.length_singleton]; omega, fun f hf => List.mem_append_left _ (h3 f hf)⟩
theorem Ac4 (x : Ent) : Ed [K1.int .i64, K1.int .u32, K1.int .i64, K1.int .u32, .str, K1.int .i64, K1.int .u32, .int .u32, .int .u32, .int .u32, .int .u32, .int .u32, .int .u32, .int .u32, .int .u32] (Bh x) = True := eq_true rfl
theorem Dw (c : List PV) : Xg c c = true := by simp [Xg]
def Uk (f g : Bool) (l m : List Ent) (k : Nat) : FS := mk [(5, .pv (.i .i64 k)), (0, .pv (.sl f 15 (l.map Bh))), (1, .pv (.sl g 15 (m.map Bh)))] []
theorem Ank {x y : SV} {f g : Bool} {l m : List Ent} {h d} (hx : Co h [x, y] = [.pv (.sl f 15 (l.map Bh)), .pv (.sl g 15 (m.map Bh))]) (hl : Bc [x, y] = true) (he : l = m) (hn : l.length ≤ 1000) :
 FunOk Tryz.prog 38 [x, y] h d (.pv (.b true)) [] := by
 refine Cn Ae fn38 (by simp) hl rfl fun F => ?_;subst he;rw [hx];simp (disch := omega) only [ir38, List.length_map, go_sem];refine A1 Ae (Uk f g l l) (fun k => k ≤ l.length) (fun k => l.length - k) 0 (by simp) (Am ?_ ?_) fun k hk => ?_
 · simp (disch := omega) only [go_sem]
 · simp (disch := omega) only [go_sem]
 by_cases hlt : k < l.length
 · have h2 : (l.map Bh)[k]? = some (Bh l[k]) := by simp [hlt]
   generalize l[k] = v at *;have hp := Dw (Bh v);have hf := Ac4 v;simp (disch := omega) only [Uk, List.length_map, h2, E0, hp, hf, go_sem];refine Ad (k + 1) _ _ rfl (by omega) (by omega) ?_ ?_
   · simp (disch := omega) only [go_sem]
   · simp (disch := omega) only [go_sem]
 · simp (disch := omega) only [Uk, List.length_map, go_sem]
theorem Aah (v : Vc) : Ed [K1.int .u32, .int .u32, .int .u32, .int .u32, .int .u32, .int .u32, .int .u32, .int .u32] (vE v) = True := eq_true rfl
theorem Apy (v : Nat → Int) : Ed [K1.int .i64, .int .i64, .int .i64, .int .i64, .int .i64, .int .i64, .int .i64, .int .i64] (iE v) = True := eq_true rfl
theorem Apx (v : Nat → Bool) : Ed [K1.bool, .bool, .bool, .bool, .bool, .bool, .bool, .bool] (wE v) = True := eq_true rfl
theorem Ahv (i : Bi) : Ed [K1.int .i64, .int .u32] [.i .i64 i.1, .i .u32 i.2] = True := eq_true rfl
def Aed (f g : Bool) (l : List Ent) (k : Nat) : FS := mk [(13, .pv (.i .i64 k)), (12, .pv (.i .i64 l.length)), (0, .pv (.sl f 15 (l.map Bh))), (1, .pv (.sl g 15 (l.map Bh)))] []
theorem Ai8 {f g : Bool} {l : List Ent} {h d} (hn : l.length ≤ 1000) :
 FunOk Tryz.prog 43 [.pv (.sl f 15 (l.map Bh)), .pv (.sl g 15 (l.map Bh))] h d (.pv (.b true)) [] := by
 refine Au Ae fn43 (by simp) rfl rfl fun F => ?_;simp (disch := omega) only [ir43, List.length_map, go_sem];refine A1 Ae (Aed f g l) (fun k => k ≤ l.length) (fun k => l.length - k) 0 (by simp) (Am ?_ ?_) fun k hk => ?_
 · simp (disch := omega) only [go_sem]
 · simp (disch := omega) only [go_sem]
 by_cases hlt : k < l.length
 · have h2 : (l.map Bh)[k]? = some (Bh l[k]) := by simp [hlt]
   generalize l[k] = v at *;have hp := Dw (Bh v);have hf := Ac4 v;simp (disch := omega) only [Aed, List.length_map, h2, E0, hp, hf, go_sem];refine Ad (k + 1) _ _ rfl (by omega) (by omega) ?_ ?_
   · simp (disch := omega) only [go_sem]
   · simp (disch := omega) only [go_sem]
 · simp (disch := omega) only [Aed, List.length_map, go_sem]
def Aeb (f g : Bool) (l : List Ver) (k : Nat) : FS := mk [(13, .pv (.i .i64 k)), (12, .pv (.i .i64 l.length)), (0, .pv (.sl f 11 (l.map A4))), (1, .pv (.sl g 11 (l.map A4)))] []
theorem Ai6 {f g : Bool} {l : List Ver} {h d} (hn : l.length ≤ 1000) :
 FunOk Tryz.prog 46 [.pv (.sl f 11 (l.map A4)), .pv (.sl g 11 (l.map A4))] h d (.pv (.b true)) [] := by
 refine Au Ae fn46 (by simp) rfl rfl fun F => ?_;simp (disch := omega) only [ir46, List.length_map, go_sem];refine A1 Ae (Aeb f g l) (fun k => k ≤ l.length) (fun k => l.length - k) 0 (by simp) (Am ?_ ?_) fun k hk => ?_
 · simp (disch := omega) only [go_sem]
 · simp (disch := omega) only [go_sem]
 by_cases hlt : k < l.length
 · have h2 : (l.map A4)[k]? = some (A4 l[k]) := by simp [hlt]
   generalize l[k] = v at *;have hp := Dw (A4 v);have hf := Ac3 v;simp (disch := omega) only [Aeb, List.length_map, h2, Jf, hp, hf, go_sem];refine Ad (k + 1) _ _ rfl (by omega) (by omega) ?_ ?_
   · simp (disch := omega) only [go_sem]
   · simp (disch := omega) only [go_sem]
 · simp (disch := omega) only [Aeb, List.length_map, go_sem]
theorem Anj (o : Obj) {h d} (hn : o.vers.length ≤ 1000) : FunOk Tryz.prog 45 [.vec 15 (Ax o), .vec 15 (Ax o)] h d (.pv (.b true)) [] := by
 refine Au Ae fn45 (by simp) rfl rfl fun F => ?_;have p1 := Dw [.i .i64 o.id.1, .i .u32 o.id.2];have p2 := Dw [.i .i64 o.last.1, .i .u32 o.last.2];have p3 := Dw (vE o.seen);have p4 := Aah o.seen;simp (disch := omega) only [ir45, H2, Dt, Jg, O4, Li, D3, Ahv, p1, p2, p3, p4, go_sem];refine Aa (Ai6 (l := o.vers) hn) ?_;simp (disch := omega) only [go_sem]
def Aec (f g : Bool) (l : List Obj) (k : Nat) : FS := mk [(17, .pv (.i .i64 k)), (16, .pv (.i .i64 l.length)), (15, .pv (.sl f 15 (l.map Ax))), (1, .pv (.sl g 15 (l.map Ax))), (2, .fn (.func 45) [])] []
set_option maxHeartbeats 1000000 in
theorem Ai7 {f g : Bool} {l : List Obj} {h d} (hn : l.length ≤ 1000) (hv : ∀ o ∈ l, o.vers.length ≤ 1000) :
 FunOk Tryz.prog 44 [.pv (.sl f 15 (l.map Ax)), .pv (.sl g 15 (l.map Ax)), .fn (.func 45) []] h d (.pv (.b true)) [] := by
 refine Au Ae fn44 (by simp) rfl rfl fun F => ?_;simp (disch := omega) only [ir44, List.length_map, go_sem];refine A1 Ae (Aec f g l) (fun k => k ≤ l.length) (fun k => l.length - k) 0 (by simp) (Am ?_ ?_) fun k hk => ?_
 · simp (disch := omega) only [go_sem]
 · simp (disch := omega) only [go_sem]
 by_cases hlt : k < l.length
 · have h2 : (l.map Ax)[k]? = some (Ax l[k]) := by simp [hlt]
   have hvk := hv _ (List.getElem_mem hlt);generalize l[k] = v at *;have hol := D8 v;simp (disch := omega) only [Aec, List.length_map, h2, Gp, hol, go_sem];refine Aa (Anj v hvk) ?_;simp (disch := omega) only [go_sem];refine Ad (k + 1) _ _ rfl (by omega) (by omega) ?_ ?_
   · simp (disch := omega) only [go_sem]
   · simp (disch := omega) only [go_sem]
 · simp (disch := omega) only [Aec, List.length_map, go_sem]
theorem Atg {s : St} (hs : Fine s) {h d} : FunOk Tryz.prog 18 [.agg (Bd s), .agg (Bd s)] h d (.pv (.b true)) [] := by
 refine Au Ae fn18 (by simp) rfl rfl fun F => ?_;have p1 := Dw (vE s.known);have p2 := Dw (iE s.wards);have p3 := Dw (wE s.ret);have f1 := Aah s.known;have f2 := Apy s.wards;have f3 := Apx s.ret;simp (disch := omega) only [ir18, Bd, A7, p1, p2, p3, f1, f2, f3, go_sem];refine Aa (Ai8 (l := s.ents) (Nat.le_trans hs.en (by omega))) ?_;simp (disch := omega) only [go_sem];refine Aa (Ai7 (l := s.objs) (Nat.le_trans hs.on (by omega)) fun o ho => Nat.le_trans (hs.ov o ho) (by omega)) ?_;simp (disch := omega) only [go_sem]
def Ad7 (s : St) (k : Nat) : FS := mk [(5, .pv (.i .i64 k)), (2, .p 2 0), (3, .p 3 0)] [(2, some (.var (.agg (Bd s)))), (3, some (.var (.agg (Bd s))))]
set_option maxHeartbeats 2000000 in
theorem Anl {s : St} (hs : Fine s) {h d} : FunOk Tryz.prog 14 [.agg (Bd s), .agg (Bd s)] h d (.pv (.b true)) [] := by
 refine Au Ae fn14 (by simp) rfl rfl fun F => ?_;have p1 := Dw (vE s.known);have p2 := Dw (iE s.wards);have p3 := Dw (wE s.ret);have f1 := Aah s.known;have f2 := Apy s.wards;have f3 := Apx s.ret;simp (disch := omega) only [ir14, Bd, A7, p1, p2, p3, f1, f2, f3, go_sem];refine Aa (Ank (l := s.ents) rfl rfl rfl (Nat.le_trans hs.en (by omega))) ?_;simp (disch := omega) only [List.length_map, go_sem];refine A1 Ae (Ad7 s) (fun k => k ≤ s.objs.length) (fun k => s.objs.length - k) 0 (by simp) (Am ?_ ?_) fun k hk => ?_
 · simp (disch := omega) only [go_sem]
 · simp (disch := omega) only [Bd, A7, go_sem]
 by_cases hlt : k < s.objs.length
 · have h2 : (s.objs.map Ax)[k]? = some (Ax s.objs[k]) := by simp [hlt]
   have hvk := hs.ov _ (List.getElem_mem hlt);have hon := hs.on;generalize s.objs[k] = o at *;have hol := D8 o;have q1 := Dw [.i .i64 o.id.1, .i .u32 o.id.2];have q2 := Dw [.i .i64 o.last.1, .i .u32 o.last.2];have q3 := Dw (vE o.seen);have q4 := Aah o.seen;simp (disch := omega) only [Ad7, Bd, A7, List.length_map, go_sem];refine Wh ?_;simp (disch := omega) only [h2, List.length_map, Gp, hol, H2, Dt, Jg, O4, Li, D3, Ahv, q1, q2, q3, q4, go_sem];refine Aa (Ayk (l := o.vers) (m := o.vers) rfl rfl rfl (by omega)) ?_;simp (disch := omega) only [go_sem];refine Ad (k + 1) _ _ rfl (by omega) (by omega) ?_ ?_
   · simp (disch := omega) only [go_sem]
   · simp (disch := omega) only [Bd, A7, go_sem]
 · obtain rfl : k = s.objs.length := by omega
   simp (disch := omega) only [Ad7, Bd, A7, List.length_map, go_sem]
set_option maxHeartbeats 1000000 in
theorem Ai2 {s : St} (i : Bi) (hs : StOk s) {h d} : FunOk Tryz.prog 15 [.agg (Bd s), .vec 2 [.i .i64 i.1, .i .u32 i.2]] h d (.tup [.vec 15 (Ax ((Di s.objs i).getD Aez)), .pv (.b (Di s.objs i).isSome)]) [] := by
 refine Nx Ae fn15 (by simp) rfl rfl fun F => ?_;have a1 := hs.fine.on;simp (disch := omega) only [ir15, Bd, A7, go_sem];refine Aa (L7 (l := s.objs) i rfl rfl hs.so (by omega)) ?_;have hiso := Xx hs.so i;cases ho : Di s.objs i with
 | none =>
   rw [ho] at hiso;have hiso' : isO s.objs i = false := hiso;simp (disch := omega) only [hiso', go_sem];refine Br ?_;simp (disch := omega) only [go_sem];exact Pn Xz
 | some o =>
   rw [ho] at hiso;have hiso' : isO s.objs i = true := hiso;obtain ⟨h1, h2⟩ := Fo ho;have hlt := (List.getElem?_eq_some_iff.1 h1).1;have he : (s.objs.map Ax)[Ca s.objs i]? = some (Ax o) := by rw [List.getElem?_map, h1]; rfl
   have hol := D8 o;have hov := hs.fine.ov o (List.mem_of_getElem? h1);have hsp := Uo o false 11 o.vers;simp (disch := omega) only [hiso', List.length_map, he, Gp, hol, D3, go_sem];refine Aa (Xk (es := o.vers.map A4) (.inr rfl) (by rw [List.length_map]; omega)) ?_;simp (disch := omega) only [hsp, hol, Gp, go_sem];refine Br ?_;simp (disch := omega) only [hol, go_sem];exact Imp.refl _
end Go.Proofs.YthhomcfimdkfhaaGreat.Fw
namespace Go.Proofs.YthhomcfimdkfhaaGreat.Fw
open Go.RowKit Go.Proofs
noncomputable def Axc (f : Bool) (l : List Evt) (k : Nat) : FS := mk [(4, .pv (.i .i64 k)), (3, .os 40), (0, .pv (.sl f 21 (l.map Bo)))] [(40, some (.row 21 ((L4 (l.take k)).map Bo)))]
structure EvIn (e : Evt) : Prop where
 ev : ev e
 dep : ∀ i, i < 8 → e.dep i < 4294967296
set_option maxHeartbeats 4000000 in
theorem Ayj {f : Bool} {l : List Evt} {h d} (hn : l.length ≤ 400) (hev : ∀ e ∈ l, EvIn e) : FunOk Tryz.prog 19 [.pv (.sl f 21 (l.map Bo))] h d (.pv (.sl false 21 ((L4 l).map Bo))) [] := by
 refine Vs Ae fn19 (by simp) rfl fun F => ?_;simp (disch := omega) only [ir19, go_sem];refine A1 Ae (Axc f l) (fun k => k ≤ l.length) (fun k => l.length - k) 0 (by simp) (T5 3 40 21 rfl (by omega) (Am ?_ ?_)) fun k hk => ?_
 · simp (disch := omega) only [go_sem]
 · simp (disch := omega) only [L4, List.take_zero, List.foldl_nil, List.map_nil, go_sem]
 by_cases hlt : k < l.length
 · have hx : l[k]? = some l[k] := List.getElem?_eq_getElem hlt;have he : (l.map Bo)[k]? = some (Bo l[k]) := by rw [List.getElem?_map, hx]; rfl
   have ht := Dg hx;have hsn := Uh (l.take k) l[k];rw [← ht] at hsn;obtain ⟨t1, t2, t3⟩ := Aba (l.take k) fun e he => (hev e (List.mem_of_mem_take he)).ev;have tl : (L4 (l.take k)).length ≤ 400 := by have := List.length_take_le k l; omega
   have hek := hev _ (List.getElem_mem hlt);generalize l[k] = e at *;have hel := Ac e;generalize hT : L4 (l.take k) = T at *;have hin := Oo t1 tl;simp (disch := omega) only [Axc, hT, go_sem];refine Aa (An3 (Ar6 t1 tl) (Yu t1) rfl) ?_;simp (disch := omega) only [List.length_map, he, B0, hel, go_sem];refine ⟨rfl, Aa (A2k hin hek.ev hek.dep) ?_⟩;by_cases hw : Ga (Aq T) e = 0
   · have e1 : Al8 T e = T ++ [e] := if_pos hw;rw [e1] at hsn;simp (disch := omega) only [hw, List.length_map, he, B0, hel, go_sem];refine ⟨k + 1, by omega, by omega, Ew 25 40 (by decide) rfl (Am ?_ ?_)⟩
     · simp (disch := omega) only [go_sem]
     · simp (disch := omega) only [hsn, List.map_append, List.map_cons, List.map_nil, go_sem]
   · have e1 : Al8 T e = T := if_neg hw;rw [e1] at hsn;simp (disch := omega) only [hw, go_sem];refine Ad (k + 1) _ _ rfl (by omega) (by omega) ?_ ?_
     · simp (disch := omega) only [go_sem]
     · simp (disch := omega) only [hsn, go_sem]
 · obtain rfl : k = l.length := by omega
   have htk : l.take l.length = l := List.take_length;simp (disch := omega) only [Axc, List.length_map, htk, go_sem]
def Awb (e : Evt) : Prop := e.name.length ≤ 30 ∧ e.data.length ≤ 250 ∧ e.gone.l.length ≤ 10 ∧ e.base.l.length ≤ 10
def Ah7 (l : List Evt) : Prop := l.length ≤ 30 ∧ ∀ e ∈ l, Awb e
open Classical in
noncomputable def X4 (l : List Evt) : Bool := decide (Ah7 l)
theorem Aht {l : List Evt} (h : Ah7 l) : X4 l = true := by simp [X4, h]
theorem Aai {l : List Evt} (h : ¬ Ah7 l) : X4 l = false := by simp [X4, h]
def Um (f : Bool) (l : List Evt) (k : Nat) : FS := mk [(10, .pv (.i .i64 k)), (9, .pv (.i .i64 l.length)), (8, .pv (.sl f 21 (l.map Bo)))] []
set_option maxHeartbeats 2000000 in
theorem Ans {x : SV} {f : Bool} {l : List Evt} {h d} (hx : Co h [x] = [.pv (.sl f 21 (l.map Bo))]) (hl : Bc [x] = true) :
 FunOk Tryz.prog 10 [x] h d (.pv (.b (X4 l))) [] := by
 refine Cn Ae fn10 (by simp) hl rfl fun F => ?_;rw [hx];by_cases h30 : 30 < (l.length : Int)
 · have hf := Aai (l := l) fun h => by have := h.1; omega
   simp (disch := omega) only [ir10, List.length_map, hf, go_sem]
 simp (disch := omega) only [ir10, List.length_map, go_sem];refine A1 Ae (Um f l) (fun k => k ≤ l.length ∧ ∀ j e, j < k → l[j]? = some e → Awb e) (fun k => l.length - k) 0 ⟨by simp, fun j e hj => absurd hj (Nat.not_lt_zero j)⟩ (Am ?_ ?_) fun k hk => ?_
 · simp (disch := omega) only [List.length_map, go_sem]
 · simp (disch := omega) only [go_sem]
 obtain ⟨hk1, hk2⟩ := hk;by_cases hlt : k < l.length
 · have hx' : l[k]? = some l[k] := List.getElem?_eq_getElem hlt;have he : (l.map Bo)[k]? = some (Bo l[k]) := by rw [List.getElem?_map, hx']; rfl
   have hm := List.getElem_mem hlt;generalize l[k] = e at *;have hel := Ac e;have hg : e.gone.pv = .sl e.gone.f e.gone.z (e.gone.l.map Ek) := rfl;have hb : e.base.pv = .sl e.base.f e.base.z (e.base.l.map Ek) := rfl;have hno : ¬ Awb e → X4 l = false := fun q => Aai fun h => q (h.2 e hm);by_cases c1 : 30 < (e.name.length : Int)
   · have hf := hno fun q => by have := q.1; omega
     simp (disch := omega) only [Um, List.length_map, he, B0, hel, Ea, c1, hf, go_sem]
   by_cases c2 : 250 < (e.data.length : Int)
   · have hf := hno fun q => by have := q.2.1; omega
     simp (disch := omega) only [Um, List.length_map, he, B0, hel, Ea, c1, G2, c2, hf, go_sem]
   by_cases c3 : 10 < (e.gone.l.length : Int)
   · have hf := hno fun q => by have := q.2.2.1; omega
     simp (disch := omega) only [Um, List.length_map, he, B0, hel, Ea, c1, G2, c2, Gk, hg, c3, hf, go_sem]
   by_cases c4 : 10 < (e.base.l.length : Int)
   · have hf := hno fun q => by have := q.2.2.2; omega
     simp (disch := omega) only [Um, List.length_map, he, B0, hel, Ea, c1, G2, c2, Gk, hg, c3, Gj, hb, c4, hf, go_sem]
   simp (disch := omega) only [Um, List.length_map, he, B0, hel, Ea, c1, G2, c2, Gk, hg, c3, Gj, hb, c4, go_sem];refine Ad (k + 1) _ _ rfl ⟨by omega, fun j x hj hjx => ?_⟩ (by omega) ?_ ?_
   · by_cases ej : j = k
     · subst ej; rw [hx'] at hjx; cases hjx; exact ⟨by omega, by omega, by omega, by omega⟩
     · exact hk2 j x (by omega) hjx
   · simp (disch := omega) only [go_sem]
   · simp (disch := omega) only [go_sem]
 · obtain rfl : k = l.length := by omega
   have hf := Aht (l := l) ⟨by omega, fun e he => by
    obtain ⟨j, hj⟩ := List.mem_iff_getElem?.1 he;exact hk2 j e (List.getElem?_eq_some_iff.1 hj).1 hj⟩
   simp (disch := omega) only [Um, hf, go_sem]
def Ql : Evt := ⟨1, 1, fun _ => 0, 2, 0, 0, 0, 0, [100], .nil, .nil, 0, [], 0⟩
def S6 : Evt := ⟨1, 2, fun i => if i = 0 then 1 else 0, 1, 0, 0, 1, 1, [102], .nil, .nil, 0, [], 0⟩
theorem A7c : Bg Ql = true := by
 have h1 : He Ql := ⟨by decide, by decide, by decide, by decide, rfl, by decide, by decide⟩
 have h2 : Nd Ql := fun i _ => by simp [Ql]
 rw [Fs h1 h2, Ar1 rfl, Z3 rfl];decide
theorem A7b : Bg S6 = true := by
 have h1 : He S6 := ⟨by decide, by decide, by decide, by decide, rfl, by decide, by decide⟩
 have h2 : Nd S6 := fun i _ => by simp only [S6]; split <;> omega
 rw [Fs h1 h2, Ar2 rfl, Z4 rfl];decide
theorem A4r : ev Ql := ⟨.inl rfl, .inl rfl, by decide, by decide, by decide⟩
theorem A4q : ev S6 := ⟨.inl rfl, .inl rfl, by decide, by decide, by decide⟩
theorem Ah5 : Acc (Aq []) Ql := ⟨A7c, rfl, fun i _ => Nat.le_refl _, rfl, rfl⟩
theorem Agf : Val [Ql] := Val.snoc (l := []) Val.nil A4r (F5.2 Ah5)
theorem Aqv : Aq [Ql] = G9 (Aq []) Ql := Pe (l := []) Val.nil Ah5
theorem Ah4 : Acc (Aq [Ql]) S6 := by
 rw [Aqv];refine ⟨A7b, rfl, fun i hi => ?_, rfl, ?_⟩
 · have : i = 0 ∨ i = 1 ∨ i = 2 ∨ i = 3 ∨ i = 4 ∨ i = 5 ∨ i = 6 ∨ i = 7 := by omega
   rcases this with rfl | rfl | rfl | rfl | rfl | rfl | rfl | rfl <;> decide
 · unfold Pm;rw [if_neg (by decide), if_pos (by decide)];rfl
theorem A1w : Val [Ql, S6] := Val.snoc (l := [Ql]) Agf A4q (F5.2 Ah4)
theorem Awq : Aq [Ql, S6] = G9 (Aq [Ql]) S6 := Pe (l := [Ql]) Agf Ah4
theorem An6 : (Aq [Ql, S6]).objs = [Mr Ql, Mr S6] := by rw [Awq, Aqv]; rfl
theorem Az4 : (Aq [Ql, S6]).ents = [E9 Ql (1, 1), E9 S6 (1, 2)] := by rw [Awq, Aqv]; rfl
theorem A7k : Di (Aq [Ql, S6]).objs (1, 2) = some (Mr S6) := by rw [An6]; rfl
theorem Ue (s : St) : A8 (Bd s) = [] := by simp [Bd, A7, A8, tn]
theorem Re {h d} : FunOk Tryz.prog 9 [] h d (.pv (.b true)) [] := by
 refine Au Ae fn9 (by simp) rfl rfl fun F => ?_;have i0 := Oo Val.nil (by simp);have i1 := Oo Agf (by simp);have i2 := Oo A1w (by simp);have r1 : Abv (Aq []) Ql = Aq [Ql] := Td (l := []) Val.nil (F5.2 Ah5);have w1 := F5.2 Ah5;have r2 : Abv (Aq [Ql]) S6 = Aq [Ql, S6] := Td Agf (F5.2 Ah4);have w2 := F5.2 Ah4;simp (disch := omega) only [ir9, go_sem];refine Aa (FunOk.imp (Tg i0 A4r) ⟨Uv, Fz (cs := Bo Ql) rfl (Ac _), trivial⟩ (by simp [A8, tn, Ue])) ?_;rw [r1, w1];simp (disch := omega) only [Bd, A7, go_sem];refine Aa (FunOk.imp (Tg i1 A4q) ⟨Imp.refl _, Fz (cs := Bo S6) rfl (Ac _), trivial⟩ (by simp [A8, tn, Ue])) ?_;rw [r2, w2];simp (disch := omega) only [Bd, A7, go_sem];refine Aa (FunOk.imp (Ai2 (s := Aq [Ql, S6]) (1, 2) i2.toStOk) ⟨Imp.refl _, Fz (cs := Ek (1, 2)) rfl rfl, trivial⟩ (by simp [A8, tn, Ue])) ?_;rw [A7k];have hol := D8 (Mr S6);have hnm : (Mr S6).name = [102] := rfl;have hdr : (Mr S6).dir = false := rfl;have hlo : (Aq [Ql, S6]).objs.length = 2 := by rw [An6]; rfl
 have hle : (Aq [Ql, S6]).ents.length = 2 := by rw [Az4]; rfl
 simp (disch := omega) only [Bd, A7, hlo, hle, Option.getD_some, Option.isSome_some, List.length_map, hol, O4, Dt, hnm, hdr, go_sem];refine Aa (Atg (s := Aq [Ql, S6]) i2.fine) ?_;simp (disch := omega) only [go_sem]
abbrev Abn : Sh := .st [Abm, .arr 8 (.int .u32), .int .i64, Abm, Abm, .str, .sl Abm, .sl Abm, .int .i64, .str, .int .i64]
theorem A1f {cs : List PV} (h : GC Abn cs) : ∃ e : Evt, cs = Bo e ∧ (∀ i, i < 8 → e.dep i < 4294967296) ∧ e.gone.ok ∧ e.base.ok ∧ e.name.length ≤ maxLen ∧ e.data.length ≤ maxLen := by
 simp only [GC] at h;simp only [GCL] at h;obtain ⟨c0, r0, rfl, g0, c1, r1, rfl, g1, c2, r2, rfl, ⟨n2, rfl, w2⟩, c3, r3, rfl, g3, c4, r4, rfl, g4, c5, r5, rfl, ⟨s5, rfl, w5⟩, c6, r6, rfl, g6, c7, r7, rfl, g7, c8, r8, rfl, ⟨n8, rfl, w8⟩, c9, r9, rfl, ⟨s9, rfl, w9⟩, c10, r10, rfl, ⟨n10, rfl, w10⟩, rfl⟩ := h;obtain ⟨b0, rfl, hb0⟩ := Adu (by simp only [GC]; exact g0);obtain ⟨a, rfl, ha⟩ := A5z (by simp only [GC]; exact g1);obtain ⟨b3, rfl, hb3⟩ := Adu (by simp only [GC]; exact g3);obtain ⟨b4, rfl, hb4⟩ := Adu (by simp only [GC]; exact g4);obtain ⟨e6, rfl, l6, g6⟩ := Arw (s := Abm) (by simp only [GC]; exact g6);obtain ⟨e7, rfl, l7, g7⟩ := Arw (s := Abm) (by simp only [GC]; exact g7);obtain ⟨m6, rfl, _⟩ := Aan (f := Ek) Adu g6;obtain ⟨m7, rfl, _⟩ := Aan (f := Ek) Adu g7;exact ⟨⟨b0.1, b0.2, a, n2, b3.1, b3.2, b4.1, b4.2, s5, ⟨false, 2, m6⟩, ⟨false, 2, m7⟩, n8, s9, n10⟩, by simp [Bo, Ek, SlI.pv]; rfl, ha, .inr rfl, .inr rfl, w5, w9⟩
structure EvRaw (e : Evt) : Prop where
 dep : ∀ i, i < 8 → e.dep i < 4294967296
 gone : e.gone.ok
 base : e.base.ok
theorem Ayb {e : Evt} (h : EvRaw e) (k : Awb e) : EvIn e := by
 obtain ⟨k1, k2, k3, k4⟩ := k;exact ⟨⟨h.gone, h.base, by omega, by omega, by omega⟩, h.dep⟩
theorem A1h {cs : List PV} (h : GC Abn cs) : ∃ e : Evt, cs = Bo e ∧ EvRaw e := by
 obtain ⟨e, h1, h2, h3, h4, _, _⟩ := A1f h;exact ⟨e, h1, ⟨h2, h3, h4⟩⟩
theorem A1g {cs : List PV} (h : GC (.sl Abn) cs) : ∃ l : List Evt, cs = [.sl false 21 (l.map Bo)] ∧ ∀ e ∈ l, EvRaw e := by
 obtain ⟨es, rfl, _, g⟩ := Arw h;obtain ⟨l, rfl, hl⟩ := Aan (f := Bo) (p := EvRaw) A1h g;exact ⟨l, rfl, hl⟩
theorem Ar9 (c : Int) (n : Nat) : ∃ q : Nat, (IntKind.u64.wrap c).tmod (n : Int) = q ∧ (0 < n → q < n) := by
 have h0 := Yq c;have h1 : 0 ≤ IntKind.u64.wrap c := by omega
 refine ⟨((IntKind.u64.wrap c).tmod n).toNat, ?_, fun hn => ?_⟩
 · have : 0 ≤ (IntKind.u64.wrap c).tmod n := Int.tmod_nonneg _ h1;omega
 · have h2 := Int.tmod_lt_of_pos (IntKind.u64.wrap c) (b := (n : Int)) (by omega);have : 0 ≤ (IntKind.u64.wrap c).tmod n := Int.tmod_nonneg _ h1;omega
structure GrewO (x y : Obj) : Prop where
 id : y.id = x.id
 dir : y.dir = x.dir
 seen : Ua x.seen y.seen
 len : x.vers.length ≤ y.vers.length
end Go.Proofs.YthhomcfimdkfhaaGreat.Fw
