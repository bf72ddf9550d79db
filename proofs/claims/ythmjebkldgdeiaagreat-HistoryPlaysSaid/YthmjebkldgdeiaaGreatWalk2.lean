/- What the functions compute that the laws of this seat reach. -/
import Derived.Test.YthmjebkldgdeiaaGreatWalk1
import Derived.OpenShut
import Derived.ShutString
import Derived.ChangeOld
import Derived.SizedLaws
import Derived.ChangeOld
import Derived.Lib.Bytealg
import Derived.Lib.Overlaps
import Derived.OpenShut
import Derived.ShutString
import Derived.SizedLaws
set_option linter.unusedVariables false
set_option linter.unusedSimpArgs false
set_option linter.unusedSectionVars false
set_option maxRecDepth 100000
namespace Go.Proofs.YthmjebkldgdeiaaGreat.Fw
open Go.RowKit Go.Proofs
structure Obj where
 id : Bo
 dir : Bool
 last : Bo
 name : List UInt8
 seen : Vc
 vers : List Ver
def Fb (f : Bool) (z : Nat) (o : Obj) : List PV := [.i .i64 o.id.1, .i .u32 o.id.2, .b o.dir, .i .i64 o.last.1, .i .u32 o.last.2, .s o.name] ++ vE o.seen ++ [.sl f z (o.vers.map Bb)]
def Ap (o : Obj) : List PV := Fb false 11 o
theorem Ef (f z) (o : Obj) : (Fb f z o).length = 15 := by simp [Fb, Bk]
theorem Eu (o : Obj) : (Ap o).length = 15 := Ef _ _ o
theorem Ai3 {f : Bool} {z : Nat} (o : Obj) (h : o.vers = [] ∨ z = 11) : PImpL (Fb f z o) (Ap o) := by
 refine PImpL.app (PImpL.refl _) ⟨Ia (by simp) (h.imp (fun e => by rw [e]; rfl) id) (.refl _), trivial⟩
theorem Aln (f : Bool) (z : Nat) (o : Obj) (K : KK) : LoadK (some (Fb f z o)) 0 2 true K = K (.vec 2 ([.i .i64 o.id.1, .i .u32 o.id.2])) [] := by
 simp only [LoadK, H2, eq_iff_iff];have e : ((Fb f z o).drop 0).take 2 = [.i .i64 o.id.1, .i .u32 o.id.2] := by
  obtain ⟨i, b, l, n, s, v⟩ := o;simp only [Fb, vE, Cz]; rfl
 rw [e];exact ⟨fun h => h.2.2, fun h => ⟨by simp [Ef], .inl trivial, h⟩⟩
theorem Aef (f : Bool) (z : Nat) (o : Obj) (K : KK) : LoadK (some (Fb f z o)) 3 2 true K = K (.vec 2 ([.i .i64 o.last.1, .i .u32 o.last.2])) [] := by
 simp only [LoadK, H2, eq_iff_iff];have e : ((Fb f z o).drop 3).take 2 = [.i .i64 o.last.1, .i .u32 o.last.2] := by
  obtain ⟨i, b, l, n, s, v⟩ := o;simp only [Fb, vE, Cz]; rfl
 rw [e];exact ⟨fun h => h.2.2, fun h => ⟨by simp [Ef], .inl trivial, h⟩⟩
theorem Aed (f : Bool) (z : Nat) (o : Obj) (K : KK) : LoadK (some (Fb f z o)) 6 8 true K = K (.vec 8 (vE o.seen)) [] := by
 simp only [LoadK, H2, eq_iff_iff];have e : ((Fb f z o).drop 6).take 8 = vE o.seen := by
  obtain ⟨i, b, l, n, s, v⟩ := o;simp only [Fb, vE, Cz]; rfl
 rw [e];exact ⟨fun h => h.2.2, fun h => ⟨by simp [Ef], .inl trivial, h⟩⟩
theorem Agr (f : Bool) (z : Nat) (o : Obj) (K : KK) : LoadK (some (Fb f z o)) 2 1 false K = K (.pv (.b o.dir)) [] := by
 simp only [LoadK, H2, eq_iff_iff];have e : (Fb f z o).getD 2 (.b false) = .b o.dir := by
  obtain ⟨i, b, l, n, s, v⟩ := o;simp only [Fb, vE, Cz]; rfl
 rw [e];exact ⟨fun h => h.2.2, fun h => ⟨by simp [Ef], .inr trivial, h⟩⟩
theorem Aee (f : Bool) (z : Nat) (o : Obj) (K : KK) : LoadK (some (Fb f z o)) 5 1 false K = K (.pv (.s o.name)) [] := by
 simp only [LoadK, H2, eq_iff_iff];have e : (Fb f z o).getD 5 (.b false) = .s o.name := by
  obtain ⟨i, b, l, n, s, v⟩ := o;simp only [Fb, vE, Cz]; rfl
 rw [e];exact ⟨fun h => h.2.2, fun h => ⟨by simp [Ef], .inr trivial, h⟩⟩
theorem Aec (f : Bool) (z : Nat) (o : Obj) (K : KK) : LoadK (some (Fb f z o)) 14 1 false K = K (.pv (.sl f z (o.vers.map Bb))) [] := by
 simp only [LoadK, H2, eq_iff_iff];have e : (Fb f z o).getD 14 (.b false) = .sl f z (o.vers.map Bb) := by
  obtain ⟨i, b, l, n, s, v⟩ := o;simp only [Fb, vE, Cz]; rfl
 rw [e];exact ⟨fun h => h.2.2, fun h => ⟨by simp [Ef], .inr trivial, h⟩⟩
theorem Aw2 (f : Bool) (z : Nat) (o : Obj) (K : KK) : LoadK (some (Fb f z o)) 0 15 true K = K (.vec 15 (Fb f z o)) [] := by
 simp only [LoadK, H2, eq_iff_iff];have e : ((Fb f z o).drop 0).take 15 = Fb f z o := List.take_of_length_le (by simp [Ef]);rw [e];exact ⟨fun h => h.2.2, fun h => ⟨by simp [Ef], .inl trivial, h⟩⟩
theorem He (o : Obj) (K : KK) : LoadK (some (Ap o)) 0 2 true K = K (.vec 2 [.i .i64 o.id.1, .i .u32 o.id.2]) [] := Aln _ _ o K
theorem H0 (o : Obj) (K : KK) : LoadK (some (Ap o)) 3 2 true K = K (.vec 2 [.i .i64 o.last.1, .i .u32 o.last.2]) [] := Aef _ _ o K
theorem L3 (o : Obj) (K : KK) : LoadK (some (Ap o)) 6 8 true K = K (.vec 8 (vE o.seen)) [] := Aed _ _ o K
theorem Ew (o : Obj) (K : KK) : LoadK (some (Ap o)) 2 1 false K = K (.pv (.b o.dir)) [] := Agr _ _ o K
theorem Ags (o : Obj) (K : KK) : LoadK (some (Ap o)) 5 1 false K = K (.pv (.s o.name)) [] := Aee _ _ o K
theorem E4 (o : Obj) (K : KK) : LoadK (some (Ap o)) 14 1 false K = K (.pv (.sl false 11 (o.vers.map Bb))) [] := Aec _ _ o K
theorem Fz (o : Obj) (K : KK) : LoadK (some (Ap o)) 0 15 true K = K (.vec 15 (Ap o)) [] := Aw2 _ _ o K
theorem V0 (o : Obj) (i : Bo) : splice (Ap o) 3 ([.i .i64 i.1, .i .u32 i.2]) = Ap { o with last := i } := by
 obtain ⟨i, b, l, n, s, v⟩ := o;simp only [splice, Ap, Fb, vE, Cz]; rfl
theorem Vz (o : Obj) (s : List UInt8) : splice (Ap o) 5 ([.s s]) = Ap { o with name := s } := by
 obtain ⟨i, b, l, n, s, v⟩ := o;simp only [splice, Ap, Fb, vE, Cz]; rfl
theorem Vy (o : Obj) (v : Vc) : splice (Ap o) 6 (vE v) = Ap { o with seen := v } := by
 obtain ⟨i, b, l, n, s, v⟩ := o;simp only [splice, Ap, Fb, vE, Cz]; rfl
theorem Acz (o : Obj) (f : Bool) (z : Nat) (l : List Ver) : splice (Ap o) 14 ([.sl f z (l.map Bb)]) = Fb f z { o with vers := l } := by
 obtain ⟨i, b, l, n, s, v⟩ := o;simp only [splice, Ap, Fb, vE, Cz]; rfl
def obN (o : Obj) : Ent := ⟨o.id, (0, 0), [], (0, 0), fun _ => 0⟩
def En (l : List Obj) : Prop := Dv (l.map obN)
def Cc (l : List Obj) (i : Bo) : Nat := Ga (l.map obN) i
def isO (l : List Obj) (i : Bo) : Bool := Q6 (l.map obN) i
structure St where
 known : Vc
 objs : List Obj
 ents : List Ent
 wards : Nat → Int
 ret : Nat → Bool
def A6 (s : St) (x y : SV) : List SV := [.vec 8 (vE s.known), x, y, .vec 8 (iE s.wards), .vec 8 (wE s.ret)]
def Ba (s : St) : List SV := A6 s (.pv (.sl false 15 (s.objs.map Ap))) (.pv (.sl false 15 (s.ents.map Bn)))
def st0 : St := ⟨fun _ => 0, [], [], fun _ => 0, fun _ => false⟩
theorem Uq {s : St} {f g : Bool} {y z : Nat} {es fs : List (List PV)} (hy : es = [] ∨ y = 15) (hz : fs = [] ∨ z = 15) (he : PImpR es (s.objs.map Ap)) (hf : PImpR fs (s.ents.map Bn)) : Imp (.agg (A6 s (.pv (.sl f y es)) (.pv (.sl g z fs)))) (.agg (Ba s)) :=
 Aek ⟨⟨Imp.refl _, rfl⟩, ⟨W8 (Ia (by simp) hy he), rfl⟩, ⟨W8 (Ia (by simp) hz hf), rfl⟩, ⟨Imp.refl _, rfl⟩, ⟨Imp.refl _, rfl⟩, trivial⟩
theorem Ac5 : Imp (.agg [.vec 8 (List.replicate 8 (.i .u32 0)), .pv (.sl true 0 []), .pv (.sl true 0 []), .vec 8 (List.replicate 8 (.i .i64 0)), .vec 8 (List.replicate 8 (.b false))]) (.agg (Ba st0)) :=
 Uq (s := st0) (.inl rfl) (.inl rfl) trivial trivial
theorem A1z {m n lo hi : Nat} {es fs : List (List PV)} {h} (hm : h m = some (.row 15 fs)) (hn : h n = some (.row 15 es)) (hne : m ≠ n) (hfs : fs ≠ []) (hes : es ≠ []) (hlt : lo < hi) : Z6 Tryz.prog 153 [.os m, .ov n 15 lo hi] h (.pv (.b false)) := by
 intro F N ρ s a w hR hh vs hc;simp only [ConcL] at hc;obtain ⟨v, us, rfl, hv, u, us', rfl, hu, rfl⟩ := hc;have hsm := (hh m (by simp [A3, tn])).trans hm;have hsn := (hh n (by simp [A3, tn])).trans hn;refine ⟨.bool false, ?_, E7⟩;rw [run_callFunc_extern (fn := (Tryz.prog.funcs[153]?).getD default) (by kernel_rfl) (by kernel_rfl) (by kernel_rfl) (by kernel_rfl) (e := Extern.SlicesOverlaps.overlaps #[43, 43] #[4]) (by kernel_rfl)];rw [Jr (tS := 43) (e := 116) (by kernel_rfl) (by kernel_rfl) (by decide) hR hsm hsn hne hfs hes hlt hv hu];rfl
set_option maxHeartbeats 4000000 in
theorem Wp (es : List (List PV)) (cs : List PV) (i : Nat) (hi : i ≤ es.length) (hb : es.length ≤ 1000) (hes : ∀ c ∈ es, c.length = 15) (hcs : cs.length = 15) {h d} (h1 : h 900 = some (.row 15 es)) (h2 : h 901 = some (.row 15 [cs])) : FunOk Tryz.prog 137 [.os 900, .pv (.i .i64 i), .os 901] h d (.os d) [.del 900, .del 901, .new d (.row 15 (es.take i ++ cs :: es.drop i))] := by
 refine Abv Af fn137 (by simp) rfl fun F => ?_;simp only [Bq];by_cases he : i = es.length
 · subst he;have e1 : es.take es.length ++ cs :: es.drop es.length = es ++ [cs] := by simp
   rw [e1];simp (disch := omega) only [ir137, h1, h2, go_sem]
 · have hne : es ≠ [] := by intro e; subst e; simp at hi; exact he (by simpa using hi)
   simp (disch := omega) only [ir137, h1, h2, go_sem];intro c hc;by_cases hcap : c < es.length + 1
   · have hp : ((c : Int) < (es.length : Int) + ((1 : Nat) : Int)) = True := eq_true (by omega);have ek : ((es.length : Int) + ((1 : Nat) : Int) - (i : Int)).toNat = es.length + 1 - i := by omega
     (try simp only [B9, B0, Bz, Bx, Bw, Bv, Bu, Bt]); simp (disch := omega) only [hp, ek, go_sem]
     generalize hT : List.take i es ++ List.replicate (es.length + 1 - i) _ = T;have hTl : T.length = es.length + 1 := by rw [← hT]; simp; omega
     have t1 : T.take i = es.take i := by
      rw [← hT, List.take_append_of_le_length (by simp; omega), List.take_take, Nat.min_self]
     have hi' : (es.take i).length = i := by simp; omega
     have m1 : min 1 (es.length + 1 - i) = 1 := by omega
     have m2 : [cs].take (es.length + 1 - i) = [cs] := List.take_of_length_le (by simp; omega);have hU : (es.take i ++ [cs] ++ T.drop (i + 1)).length = es.length + 1 := by simp [hTl]; omega
     have e1 : ((i : Int) + ((1 : Nat) : Int)).toNat = i + 1 := by omega
     have u1 : (es.take i ++ [cs] ++ T.drop (i + 1)).take (i + 1) = es.take i ++ [cs] := by
      rw [List.take_append_of_le_length (by simp; omega)];exact List.take_of_length_le (by simp; omega)
     have u2 : (es.take es.length).drop i = es.drop i := by rw [List.take_length]
     have u3 : min (es.drop i).length (es.length + 1 - (i + 1)) = es.length - i := by simp
     have u4 : (es.drop i).take (es.length + 1 - (i + 1)) = es.drop i := List.take_of_length_le (by simp);have u5 : (es.take i ++ [cs] ++ T.drop (i + 1)).drop (i + 1 + (es.length - i)) = [] := List.drop_of_length_le (by rw [hU]; omega);have u6 : es.take i ++ cs :: es.drop i = es.take i ++ [cs] ++ es.drop i := by simp
     simp only [hTl, t1, m1, m2, e1, List.length_singleton];simp only [hU, u1, u2, u3, u4, u5, u6, List.append_nil];exact ⟨by omega, by omega, trivial⟩
   · have hp : ((c : Int) < (es.length : Int) + ((1 : Nat) : Int)) = False := eq_false (by omega)
     (try simp only [B9, B0, Bz, Bx, Bw, Bv, Bu, Bt]); simp (disch := omega) only [hp, go_sem]
     intro g hg hgs;have hg1 : g.length = 1 := by omega
     have e1 : ((i : Int) + ((1 : Nat) : Int)).toNat = i + 1 := by omega
     have hE : (es ++ g).length = es.length + 1 := by simp [hg1]
     refine ⟨by omega, ?_⟩;rw [e1];refine Rr (A1z (es := es ++ g) (fs := [cs]) rfl rfl (by decide) (by simp) (by simp [hne]) (by omega)) ?_;have v1 : ((es ++ g).take (es ++ g).length).drop i = (es ++ g).drop i := by rw [List.take_length]
     have v2 : min ((es ++ g).drop i).length ((es ++ g).length - (i + 1)) = es.length - i := by simp [hg1]; omega
     have v3 : ((es ++ g).drop i).take ((es ++ g).length - (i + 1)) = es.drop i := by
      rw [hE, List.drop_append_of_le_length hi, show es.length + 1 - (i + 1) = (es.drop i).length from by simp];exact List.take_left
     have v4 : (es ++ g).drop (i + 1 + (es.length - i)) = [] := List.drop_of_length_le (by omega);have v5 : ((es ++ g).take (i + 1) ++ es.drop i).length = es.length + 1 := by simp [hg1]; omega
     have v6 : ((es ++ g).take (i + 1) ++ es.drop i).take i = es.take i := by
      rw [List.take_append_of_le_length (by simp; omega), List.take_take, Nat.min_eq_left (by omega), List.take_append_of_le_length hi]
     have v7 : ((es ++ g).take (i + 1) ++ es.drop i).drop (i + 1) = es.drop i := by
      rw [List.drop_append_of_le_length (by simp; omega), List.drop_of_length_le (by simp; omega), List.nil_append]
     have m1 : min 1 (es.length + 1 - i) = 1 := by omega
     have m2 : [cs].take (es.length + 1 - i) = [cs] := List.take_of_length_le (by simp; omega);have u6 : es.take i ++ cs :: es.drop i = es.take i ++ [cs] ++ es.drop i := by simp
     simp (disch := omega) only [e1, v1, v2, v3, v4, v5, v6, v7, m1, m2, u6, go_sem]
theorem Ap1 {m n : Nat} (es : List (List PV)) (cs : List PV) (i : Nat) (hi : i ≤ es.length) (hb : es.length ≤ 1000) (hes : ∀ c ∈ es, c.length = 15) (hcs : cs.length = 15) (hmn : m ≠ n) (hm : m < 900) (hn : n < 900) {h d} (hd : d ≠ m ∧ d ≠ n ∧ d < 900) (h1 : h m = some (.row 15 es)) (h2 : h n = some (.row 15 [cs])) : FunOk Tryz.prog 137 [.os m, .pv (.i .i64 i), .os n] h d (.os d) [.del m, .del n, .new d (.row 15 (es.take i ++ cs :: es.drop i))] := by
 have hπ := Aid (a := 900) (m := m) (b := 901) (n := n) (by omega) (by omega) (by omega) hmn;have e1 : sw2 900 m 901 n 900 = m := by unfold sw2; simp
 have e2 : sw2 900 m 901 n 901 = n := by unfold sw2; repeat' split <;> (try omega)
 have e3 : sw2 900 m 901 n d = d := by unfold sw2; repeat' split <;> (try omega)
 have := (Wp es cs i hi hb hes hcs (h := fun k => (h (sw2 900 m 901 n k))) (d := d) (by rw [← h1, e1]) (by rw [← h2, e2])).rn (π := sw2 900 m 901 n) hπ (d' := d);simp only [SV.rnL, SV.rn, HU.rn, Blk.rn, List.map_cons, List.map_nil, e1, e2, e3] at this;refine this.at fun k hk => ?_;simp only [A3, tn, List.append_nil, List.nil_append, List.mem_append, List.mem_singleton] at hk;simp only [hπ];rcases hk with rfl | rfl
 · rw [h1]; rfl
 · rw [h2]; rfl
theorem Aqh (x : Obj) (b : Bo) {h d} : FunOk Tryz.prog 152 [.vec 15 (Ap x), .vec 2 [.i .i64 b.1, .i .u32 b.2]] h d (.pv (.i .i64 (I4 x.id b))) [] := by
 refine Aq Af fn152 (by simp) rfl rfl fun F => ?_;simp (disch := omega) only [ir152, He, go_sem];refine Aa (M8 _ _ _ _) ?_;by_cases h1 : Cp x.id.1 x.id.2 b.1 b.2 = true
 · have e : I4 x.id b = -1 := if_pos h1;simp (disch := omega) only [h1, e, go_sem]
 · have h1' : Cp x.id.1 x.id.2 b.1 b.2 = false := by simpa using h1
   simp (disch := omega) only [h1', He, go_sem];refine Aa (M8 _ _ _ _) ?_;by_cases h2 : Cp b.1 b.2 x.id.1 x.id.2 = true
   · have e : I4 x.id b = 1 := by unfold I4; rw [if_neg h1, if_pos h2]
     simp (disch := omega) only [h2, e, go_sem]
   · have h2' : Cp b.1 b.2 x.id.1 x.id.2 = false := by simpa using h2
     have e : I4 x.id b = 0 := by unfold I4; rw [if_neg h1, if_neg h2]
     simp (disch := omega) only [h2', e, go_sem]
theorem Ai6 {l : List Obj} {j : Nat} {y : Ent} (h : (l.map obN)[j]? = some y) : ∃ o, l[j]? = some o ∧ y.id = o.id := by
 rw [List.getElem?_map] at h;obtain ⟨o, h1, h2⟩ := Option.map_eq_some_iff.1 h;exact ⟨o, h1, by rw [← h2]; rfl⟩
theorem U5 {l : List Obj} {j : Nat} {o : Obj} (h : l[j]? = some o) : (l.map obN)[j]? = some (obN o) := by rw [List.getElem?_map, h]; rfl
theorem K2 {l : List Obj} (hs : En l) {j m : Nat} {x v : Obj} (hj : l[j]? = some x) (hm : l[m]? = some v) (h : j < m) : Ib x.id v.id = true := V3 (l := l.map obN) hs (U5 hj) (U5 hm) h
theorem Avz {l : List Obj} {i : Bo} {k : Nat} (hk : k ≤ l.length) (h1 : ∀ j x, j < k → l[j]? = some x → Ib x.id i = true) (h2 : ∀ x, l[k]? = some x → ¬ Ib x.id i = true) : Cc l i = k :=
 Air (l := l.map obN) (by simpa using hk) (fun j x hj hx => by
  obtain ⟨o, h3, h4⟩ := Ai6 hx;rw [h4]; exact h1 j o hj h3) fun x hx => by
  obtain ⟨o, h3, h4⟩ := Ai6 hx;rw [h4]; exact h2 o h3
theorem Lx (l : List Obj) (i : Bo) : Cc l i ≤ l.length := by have := Aaz (l.map obN) i; simpa [Cc] using this
theorem Q5 {l : List Obj} (hs : En l) (i : Bo) : isO l i = match l[Cc l i]? with | some x => decide (x.id = i) | none => false := by
 have h := Qy (l := l.map obN) hs i;unfold isO Q6;rw [h];show _ = match l[Cc l i]? with | some x => decide (x.id = i) | none => false
 unfold Cc;cases hx : l[Ga (l.map obN) i]? with
 | none => rw [List.getElem?_map, hx]; rfl
 | some x =>
   rw [List.getElem?_map, hx];show (if x.id = i then some (obN x) else none).isSome = decide (x.id = i);by_cases e : x.id = i <;> simp [e]
theorem A2z {l : List Obj} (hs : En l) {i : Bo} (h : isO l i = true) : ∃ o, l[Cc l i]? = some o ∧ o.id = i := by
 rw [Q5 hs] at h;cases hx : l[Cc l i]? with
 | none => rw [hx] at h; cases h
 | some x => rw [hx] at h; exact ⟨x, rfl, by simpa using h⟩
def Aaq (f : Bool) (l : List Obj) (i : Bo) (p : Nat × Nat) : FS := mk [(9, .pv (.i .i64 p.1)), (10, .pv (.i .i64 p.2)), (8, .pv (.i .i64 l.length)), (0, .pv (.sl f 15 (l.map Ap))), (2, .fn (.func 152) []), (4, .p 4 0)] [(4, some (.var (.vec 2 [.i .i64 i.1, .i .u32 i.2])))]
set_option maxHeartbeats 1000000 in
theorem A16 {x : SV} {f : Bool} {l : List Obj} (i : Bo) {h d} (hx : Cm h [x, .vec 2 [.i .i64 i.1, .i .u32 i.2], .fn (.func 152) []] = [.pv (.sl f 15 (l.map Ap)), .vec 2 [.i .i64 i.1, .i .u32 i.2], .fn (.func 152) []]) (hl : Bc [x, .vec 2 [.i .i64 i.1, .i .u32 i.2], .fn (.func 152) []] = true) (hs : En l) (hn : l.length ≤ 1000) :
 FunOk Tryz.prog 151 [x, .vec 2 [.i .i64 i.1, .i .u32 i.2], .fn (.func 152) []] h d (.tup [.pv (.i .i64 (Cc l i)), .pv (.b (isO l i))]) [] := by
 refine Ci Af fn151 (by simp) hl rfl fun F => ?_;rw [hx];simp (disch := omega) only [ir151, List.length_map, go_sem];refine A1 Af (Aaq f l i) (fun p => p.1 ≤ p.2 ∧ p.2 ≤ l.length ∧ (∀ j x, j < p.1 → l[j]? = some x → Ib x.id i = true) ∧ ∀ j x, p.2 ≤ j → l[j]? = some x → ¬ Ib x.id i = true) (fun p => p.2 - p.1) (0, l.length) ⟨by simp, by simp, by simp, fun j x hj hx => by simp only at hj; rw [List.getElem?_eq_none hj] at hx; cases hx⟩ (Ak ?_ ?_) fun p hp => ?_
 · (try simp only [B9, B0, Bz, Bx, Bw, Bv, Bu, Bt]); simp (disch := omega) only [go_sem]
 · simp (disch := omega) only [go_sem]
 obtain ⟨a, b⟩ := p;obtain ⟨p1, p2, p3, p4⟩ := hp;simp only at p1 p2 p3 p4;by_cases hlt : a < b
 · have hm : (a + b) / 2 < l.length := by omega
   have hx : l[(a + b) / 2]? = some l[(a + b) / 2] := List.getElem?_eq_getElem hm;have he : (l.map Ap)[(a + b) / 2]? = some (Ap l[(a + b) / 2]) := by rw [List.getElem?_map, hx]; rfl
   have e1 : ((a : Int) + (b : Int)).fdiv (2 ^ min (Int.toNat 1) 64) = (((a + b) / 2 : Nat) : Int) := by
    rw [show (2 : Int) ^ min (Int.toNat 1) 64 = 2 from rfl, Int.fdiv_eq_ediv_of_nonneg _ (by omega)]; omega
   have hm1 : a ≤ (a + b) / 2 := by omega
   have hm2 : (a + b) / 2 < b := by omega
   generalize l[(a + b) / 2] = v at *;generalize (a + b) / 2 = m at *;simp (disch := omega) only [Aaq, List.length_map, e1, he, Fz, go_sem];refine Aa (Aqh v i) ?_;by_cases hc : Ib v.id i = true
   · have e2 : (I4 v.id i < 0) = True := by rw [Vb]; exact eq_true hc
     simp (disch := omega) only [e2, go_sem];refine Ad (x := (a, b)) (m + 1, b) _ _ rfl ⟨by show m + 1 ≤ b; omega, p2, fun j x hj hx' => ?_, p4⟩ (by show b - (m + 1) < b - a; omega) ?_ ?_
     · by_cases e : j = m
       · subst e; rw [hx] at hx'; cases hx'; exact hc
       · exact G7 (K2 hs hx' hx (by simp only at hj; omega)) hc
     · (try simp only [B9, B0, Bz, Bx, Bw, Bv, Bu, Bt]); simp (disch := omega) only [go_sem]
     · simp (disch := omega) only [go_sem]
   · have e2 : (I4 v.id i < 0) = False := by rw [Vb]; exact eq_false hc
     simp (disch := omega) only [e2, go_sem];refine Ad (x := (a, b)) (a, m) _ _ rfl ⟨by show a ≤ m; omega, by show m ≤ _; omega, p3, fun j x hj hx' => ?_⟩ (by show m - a < b - a; omega) ?_ ?_
     · by_cases e : j = m
       · subst e; rw [hx] at hx'; cases hx'; exact hc
       · exact fun q => hc (G7 (K2 hs hx hx' (by simp only at hj; omega)) q)
     · (try simp only [B9, B0, Bz, Bx, Bw, Bv, Bu, Bt]); simp (disch := omega) only [go_sem]
     · simp (disch := omega) only [go_sem]
 · obtain rfl : a = b := by omega
   have hpos : Cc l i = a := Avz p2 p3 fun x hx' => p4 a x (Nat.le_refl a) hx';have hk := Q5 hs i;rw [hpos] at hk;by_cases hal : a < l.length
   · have hx' : l[a]? = some l[a] := List.getElem?_eq_getElem hal;have he : (l.map Ap)[a]? = some (Ap l[a]) := by rw [List.getElem?_map, hx']; rfl
     rw [hx'] at hk;simp only at hk;generalize l[a] = v at *;simp (disch := omega) only [Aaq, hal, he, Fz, List.length_map, go_sem];refine Aa (Aqh v i) ?_;by_cases hv : v.id = i
     · have e2 : (I4 v.id i = 0) = True := by rw [Vd]; exact eq_true hv
       have e3 : isO l i = true := by rw [hk]; simp [hv]
       simp (disch := omega) only [e2, e3, hpos, go_sem]
     · have e2 : (I4 v.id i = 0) = False := by rw [Vd]; exact eq_false hv
       have e3 : isO l i = false := by rw [hk]; simp [hv]
       simp (disch := omega) only [e2, e3, hpos, go_sem]
   · rw [List.getElem?_eq_none (by omega)] at hk;simp (disch := omega) only [Aaq, hal, hpos, hk, go_sem]
theorem Nc {x : SV} {f : Bool} {l : List Obj} (i : Bo) {h d} (hx : Cm h [x, .vec 2 [.i .i64 i.1, .i .u32 i.2]] = [.pv (.sl f 15 (l.map Ap)), .vec 2 [.i .i64 i.1, .i .u32 i.2]]) (hl : Bc [x, .vec 2 [.i .i64 i.1, .i .u32 i.2]] = true) (hs : En l) (hn : l.length ≤ 1000) :
 FunOk Tryz.prog 136 [x, .vec 2 [.i .i64 i.1, .i .u32 i.2]] h d (.tup [.pv (.i .i64 (Cc l i)), .pv (.b (isO l i))]) [] := by
 refine Ci Af fn136 (by simp) hl rfl fun F => ?_;rw [hx];simp (disch := omega) only [ir136, go_sem];refine Aa (A16 (l := l) i rfl rfl hs hn) ?_;simp (disch := omega) only [go_sem]
def Kw (l : List Obj) (i : Bo) : Int := if i = (0, 0) then 0 else match l[Cc l i]? with
 | some o => if o.id = i then (if o.dir = true then 0 else 22) else 2
 | none => 2
theorem A3t {l : List Obj} (hs : En l) {i : Bo} (h : i ≠ (0, 0)) (k : isO l i = false) : Kw l i = 2 := by
 unfold Kw; rw [if_neg h];rw [Q5 hs] at k;cases hx : l[Cc l i]? with
 | none => rfl
 | some x => rw [hx] at k; simp only at k ⊢; rw [if_neg (by simpa using k)]
theorem A3s {l : List Obj} {i : Bo} {o : Obj} (h : i ≠ (0, 0)) (k : l[Cc l i]? = some o) (ho : o.id = i) : Kw l i = if o.dir = true then 0 else 22 := by
 unfold Kw; rw [if_neg h, k]; simp only; rw [if_pos ho]
theorem Acf {i : Bo} (h : i = (0, 0)) : i.1 = 0 ∧ i.2 = 0 := by subst h; exact ⟨rfl, rfl⟩
theorem Ap4 {s : St} (i : Bo) {h d} (hs : En s.objs) (hn : s.objs.length ≤ 1000) : FunOk Tryz.prog 135 [.agg (Ba s), .vec 2 [.i .i64 i.1, .i .u32 i.2]] h d (.pv (.i .i64 (Kw s.objs i))) [] := by
 refine Aq Af fn135 (by simp) rfl rfl fun F => ?_;by_cases h0 : i = (0, 0)
 · have e : Kw s.objs i = 0 := if_pos h0;have hz : Cj i.1 i.2 = true := decide_eq_true (Acf h0);simp (disch := omega) only [ir135, Ba, A6, Ae, Au, Ar, hz, e, go_sem]
 · have hz : Cj i.1 i.2 = false := decide_eq_false fun e => h0 (Prod.ext e.1 e.2);simp (disch := omega) only [ir135, Ba, A6, Ae, Au, Ar, hz, go_sem];refine Aa (Nc (l := s.objs) i rfl rfl hs hn) ?_;by_cases hi : isO s.objs i = true
   · obtain ⟨o, h1, h2⟩ := A2z hs hi;have e := A3s h0 h1 h2;have hlt := (List.getElem?_eq_some_iff.1 h1).1;have he : (s.objs.map Ap)[Cc s.objs i]? = some (Ap o) := by rw [List.getElem?_map, h1]; rfl
     by_cases hd : o.dir = true
     · rw [if_pos hd] at e;simp (disch := omega) only [hi, List.length_map, he, Ew, hd, e, go_sem]
     · rw [if_neg hd] at e;have hd' : o.dir = false := by simpa using hd
       simp (disch := omega) only [hi, List.length_map, he, Ew, hd', e, go_sem]
   · have hi' : isO s.objs i = false := by simpa using hi
     have e := A3t hs h0 hi';simp (disch := omega) only [hi', e, go_sem]
theorem Asb {P : Program} (hm : P.follows .mixedOrders = true) {f N' : Nat} {rs : List Rv} {c : C} (hf : A5 P f = some (N', rs, c)) {args : List SV} {h : Nat → Option Blk} {d : Nat} {sz : Nat} {es : List (List PV)} {X : Nat → SV} (hlen : args.length ≤ N')
 (hargs : SV.closedL args = true) (hX : ∀ (V V' : View) (ρ ρ' : Nat → Value) (n d : Nat) (v : Value), View.le V V' → ρ' d = ρ n → Conc V ρ (X n) v → Conc V' ρ' (X d) v)
 (hrun : ∀ F, sx (U9 P F N') c (O6 rs fun y g => ∃ n, y = X n ∧ g n = some (.row sz es)) (mk (C6 0 args) [])) :
 FunOk P f args h d (X d) [.new d (.row sz es)] := by
 obtain ⟨h1, h2, h3⟩ := Co hargs;refine ⟨Cn hf, fun F N ρ s a w hR hh vs hc => ?_⟩;refine Calls.mono (Dq hm hf (h := h) hlen h2 Jq (by rw [h3]; exact hrun) hR hh hc) fun e w' he => ?_;obtain ⟨v, rfl, hg, N'', ρ', s', a', y, hR', hy, n, rfl, hn⟩ := he;rw [h1, Dx] at hR' hy;obtain ⟨base, cap, g1, g2, g3, g4, g5⟩ := hR'.own n _ hn;have hown : ∀ b, Cq (ρ' n) = some b → w.heap.size ≤ b ∧ b < w'.heap.size := fun b hb => by
  have ho : Cl ρ' s'.h b := ⟨n, _, hn, hb⟩
  exact ⟨(hR'.may b ho).resolve_right id, hR'.lt ho⟩
 have hnew := hR.adopt hg d (.row sz es) (ρ' n) hown fun _ => by
  refine ⟨base, cap, by rw [A0]; exact g1, g2, g3, g4, fun hcap => ?_⟩;obtain ⟨b, vs', ty, fr, k1, k2, k3, k4, k5, k6⟩ := g5 hcap;refine ⟨b, vs', ty, fr, k1, k2, k3, k4, k5, fun i c hi => (k6 i c hi).mono (Bl fun b' c' ho hc' => ⟨fun hb' => ?_, hc'⟩)⟩;rcases hb' with ⟨m, z, hm1, hm2⟩ | hb'
  · by_cases hmd : m = d
    · subst hmd;rw [A0] at hm2;exact ho (.inl ⟨n, _, hn, hm2⟩)
    · rw [Bs hmd] at hm2;simp only [FS.hup, FS.seth, FS.kill, hmd, if_false] at hm1;obtain ⟨z', hz', _⟩ := Option.map_eq_some_iff.1 hm1;exact ho (.inr (.inl ⟨m, z', hz', hm2⟩))
  · exact ho (.inr (.inr hb'))
 refine ⟨v, _, rfl, hnew.1, hX _ _ _ _ _ _ _ (Bl fun b' c' ho hc' => ⟨fun hb' => ?_, hc'⟩) A0 hy⟩;rcases hb' with ⟨m, z, hm1, hm2⟩ | hb'
 · by_cases hmd : m = d
   · subst hmd;rw [A0] at hm2;exact ho (.inl ⟨n, _, hn, hm2⟩)
   · rw [Bs hmd] at hm2;simp only [FS.hup, FS.seth, FS.kill, hmd, if_false] at hm1;obtain ⟨z', hz', _⟩ := Option.map_eq_some_iff.1 hm1;exact ho (.inr (.inl ⟨m, z', hz', hm2⟩))
 · exact ho (.inr (.inr hb'))
theorem Ak6 {f : Bool} {z : Nat} {es : List (List PV)} {h d} (hz : es = [] ∨ z = 15) (hb : es.length ≤ 1000) : FunOk Tryz.prog 94 [.pv (.sl f z es)] h d (.pv (.sl false 15 es)) [] := by
 refine Re Af fn94 (by simp) rfl fun F => ?_;simp (disch := omega) only [ir94, go_sem];intro b hb';cases b
 · simp (disch := omega) only [go_sem]
 · have he : es = [] := by
    cases es with
    | nil => rfl
    | cons c l => exact absurd (hb' (by simp)) (by simp)
   subst he
   (try simp only [B9, B0, Bz, Bx, Bw, Bv, Bu, Bt]); simp (disch := omega) only [go_sem]
   decide
theorem Ak5 {f : Bool} {z : Nat} {es : List (List PV)} {h d} (hz : es = [] ∨ z = 11) (hb : es.length ≤ 1000) : FunOk Tryz.prog 95 [.pv (.sl f z es)] h d (.pv (.sl false 11 es)) [] := by
 refine Re Af fn95 (by simp) rfl fun F => ?_;simp (disch := omega) only [ir95, go_sem];intro b hb';cases b
 · simp (disch := omega) only [go_sem]
 · have he : es = [] := by
    cases es with
    | nil => rfl
    | cons c l => exact absurd (hb' (by simp)) (by simp)
   subst he
   (try simp only [B9, B0, Bz, Bx, Bw, Bv, Bu, Bt]); simp (disch := omega) only [go_sem]
   decide
theorem Aex {V V' : View} {ρ ρ' : Nat → Value} {n d : Nat} {a b : List SV} {v : Value} (hV : V.le V') (he : ρ' d = ρ n) (ha : SV.closedL a = true) (hb : SV.closedL b = true) (h : Conc V ρ (.agg (a ++ .os n :: b)) v) : Conc V' ρ' (.agg (a ++ .os d :: b)) v := by
 simp only [Conc] at h ⊢;obtain ⟨vs, rfl, hc⟩ := h;obtain ⟨va, vb, rfl, h1, h2⟩ := Kk hc;simp only [Cells] at h2;obtain ⟨u, ub, rfl, h3, h4, h5, h6⟩ := h2;refine ⟨_, rfl, Mh (Eh hV ha h1) ?_⟩;simp only [Cells];refine ⟨u, ub, rfl, ?_, h4, h5, Eh hV hb h6⟩;simp only [Conc] at h3 ⊢;rw [he]; exact h3
def cpS (k : Nat) : SV := if k = 0 then .pv (.sl true 0 []) else .os 40
def cpK (l : List Obj) (k : Nat) : Option Blk := if k = 0 then none else some (.row 15 ((l.take k).map Ap))
theorem As5 : cpS 0 = .pv (.sl true 0 []) := rfl
theorem Ajq {k : Nat} (h : k ≠ 0) : cpS k = .os 40 := if_neg h
theorem As6 (l : List Obj) : cpK l 0 = none := rfl
theorem Ajr {l : List Obj} {k : Nat} (h : k ≠ 0) : cpK l k = some (.row 15 ((l.take k).map Ap)) := if_neg h
def Cd : SV := .agg [.vec 8 (List.replicate 8 (.i .u32 0)), .pv (.sl true 0 []), .pv (.sl true 0 []), .vec 8 (List.replicate 8 (.i .i64 0)), .vec 8 (List.replicate 8 (.b false))]
def Fe (s : St) : SV := .pv (.sl false 15 (s.ents.map Bn))
def Avd (s : St) (k : Nat) : FS := mk [(15, .pv (.i .i64 k)), (14, .pv (.i .i64 s.objs.length)), (13, .pv (.sl false 15 (s.objs.map Ap))), (3, .p 3 0), (2, .p 2 0)] [(3, some (.var (.agg (A6 s (cpS k) (Fe s))))), (2, some (.var Cd)), (40, cpK s.objs k)]
theorem Dc {α : Type} {l : List α} {k : Nat} {y : α} (h : l[k]? = some y) : l.take (k + 1) = l.take k ++ [y] := by
 rw [List.take_add_one, h]; rfl
theorem Y5 (l : List Obj) : ∀ c ∈ l.map Ap, c.length = 15 := fun c hc => by
 obtain ⟨o, _, rfl⟩ := List.mem_map.1 hc;exact Eu o
set_option maxHeartbeats 4000000 in
theorem Tc {s : St} (hn : s.objs.length ≤ 1000) (hv : ∀ o ∈ s.objs, o.vers.length ≤ 1000) (he : s.ents.length ≤ 1000) {F : Fr} {R : SV → (Nat → Option Blk) → Prop}
 (h1 : s.objs = [] → ∀ h, R (.agg (A6 s (.pv (.sl true 0 [])) (Fe s))) h) (h2 : s.objs ≠ [] → ∀ h, h 40 = some (.row 15 (s.objs.map Ap)) → R (.agg (A6 s (.os 40) (Fe s))) h) :
 sx (U9 Tryz.prog F 31) ir53 (O6 [.c 2 26 true] R) (mk (C6 0 [.agg (Ba s)]) []) := by
 simp (disch := omega) only [ir53, Ba, A6, go_sem];refine Aa (Ak6 (es := s.ents.map Bn) (.inr rfl) (by simpa using he)) ?_;simp (disch := omega) only [List.length_map, go_sem];refine A1 Af (Avd s) (fun k => k ≤ s.objs.length) (fun k => s.objs.length - k) 0 (by simp) (Ak ?_ ?_) fun k hk => ?_
 · simp (disch := omega) only [go_sem]
 · simp (disch := omega) only [As5, As6, A6, Fe, Cd, go_sem]
 by_cases hlt : k < s.objs.length
 · have hx : s.objs[k]? = some s.objs[k] := List.getElem?_eq_getElem hlt;have hel : (s.objs.map Ap)[k]? = some (Ap s.objs[k]) := by rw [List.getElem?_map, hx]; rfl
   have ht := Dc hx;have hvk := hv _ (List.getElem_mem hlt);generalize s.objs[k] = o at *;have hsp : splice (Ap o) 14 [.sl false 11 (o.vers.map Bb)] = Ap o := Acz o false 11 o.vers;have hol := Eu o;have htm : (s.objs.take (k + 1)).map Ap = (s.objs.take k).map Ap ++ [Ap o] := by rw [ht]; simp
   have hkl : ((s.objs.take k).map Ap).length = k := by simp; omega
   simp (disch := omega) only [Avd, A6, List.length_map, hel, Fz, go_sem];simp (disch := omega) only [E4, go_sem];refine Aa (Ak5 (es := o.vers.map Bb) (.inr rfl) (by simpa using hvk)) ?_;by_cases h0 : k = 0
   · subst h0;simp (disch := omega) only [hsp, As5, As6, Fz, hol, A6, Fe, Cd, go_sem];have hS := Ajq (k := 1) (by omega);have hK := Ajr (l := s.objs) (k := 1) (by omega);refine ⟨fun _ => trivial, (1 : Nat), by omega, by show _ - 1 < _ - 0; omega, Es 27 40 (by decide) rfl (Ak ?_ ?_)⟩
     · simp (disch := omega) only [go_sem]
     · simp (disch := omega) only [hS, hK, htm, A6, Fe, Cd, go_sem];rfl
   · have hS := Ajq h0;have hK := Ajr (l := s.objs) h0;simp (disch := omega) only [hsp, hS, hK, Fz, hol, A6, Fe, Cd, hkl, go_sem];have hS' := Ajq (k := k + 1) (by omega);have hK' := Ajr (l := s.objs) (k := k + 1) (by omega);refine ⟨k + 1, by omega, by omega, Es 27 40 (by decide) rfl (Ak ?_ ?_)⟩
     · simp (disch := omega) only [go_sem]
     · simp (disch := omega) only [hS', hK', htm, A6, Fe, Cd, go_sem]
 · obtain rfl : k = s.objs.length := by omega
   by_cases h0 : s.objs = []
   · have := h1 h0;have e : s.objs.length = 0 := by rw [h0]; rfl
     simp (disch := omega) only [Avd, A6, e, As5, As6, Fe, Cd, go_sem];exact this _
   · have e : s.objs.length ≠ 0 := fun e => h0 (List.eq_nil_of_length_eq_zero e);have hS := Ajq e;have hK := Ajr (l := s.objs) e;simp (disch := omega) only [Avd, A6, hS, hK, Fe, Cd, go_sem];exact h2 h0 _ (by simp [mk, lk])
theorem Ame {P : Program} (hm : P.follows .mixedOrders = true) {f N' : Nat} {rs : List Rv} {c : C} (hf : A5 P f = some (N', rs, c)) {args : List SV} {h : Nat → Option Blk} {d : Nat} {sz : Nat} {es : List (List PV)} {l r : List SV} (hlen : args.length ≤ N')
 (hargs : SV.closedL args = true) (hl : SV.closedL l = true) (hr : SV.closedL r = true) (hrun : ∀ F, sx (U9 P F N') c (O6 rs fun y g => (∃ n, y = .agg (l ++ .os n :: r) ∧ g n = some (.row sz es)) ∨ ∃ z, y = .agg (l ++ .pv (.sl true z []) :: r) ∧ es = []) (mk (C6 0 args) [])) :
 FunOk P f args h d (.agg (l ++ .pv (.sl false sz es) :: r)) [] := by
 obtain ⟨h1, h2, h3⟩ := Co hargs;refine ⟨Cn hf, fun F N ρ s a w hR hh vs hc => ?_⟩;refine Calls.mono (Dq hm hf (h := h) hlen h2 Jq (by rw [h3]; exact hrun) hR hh hc) fun e w' he => ?_;obtain ⟨v, rfl, hg, N'', ρ', s', a', y, hR', hy, hyy⟩ := he;rw [h1, Dx] at hR' hy;refine ⟨v, ρ, rfl, hR.grew hg, ?_⟩;have key : ∀ (x : SV), x.width = 1 → y = .agg (l ++ x :: r) → (∀ u, Conc (vw ⟨w, fun _ => False, F.out ρ s.h, fun _ => undef, []⟩ w' ρ' s') ρ' x u → PConc (vw F w' ρ s) (.sl false sz es) u) → Conc (vw F w' ρ (s.hup [])) ρ (.agg (l ++ .pv (.sl false sz es) :: r)) v := fun x hw e k => by
  subst e;simp only [Conc] at hy ⊢;obtain ⟨vs, rfl, hc⟩ := hy;obtain ⟨va, vb, rfl, g1, g2⟩ := Kk hc;simp only [Cells] at g2;obtain ⟨u, ub, rfl, g3, g4, g5, g6⟩ := g2;refine ⟨_, rfl, Mh (Eh (E8 hR') hl g1) ?_⟩;simp only [Cells];exact ⟨u, ub, rfl, by simp only [Conc]; exact k u g3, g4.trans hw, g5, Eh (E8 hR') hr g6⟩
 rcases hyy with ⟨n, e, hn⟩ | ⟨z, e, rfl⟩
 · refine key _ rfl e fun u hu => ?_;simp only [Conc] at hu;rw [hu.1]; exact Wc hR' hn
 · refine key _ rfl e fun u hu => ?_;simp only [Conc] at hu;exact (Ia (by simp) (.inl rfl) (.refl [])) _ _ (hu.mono (E8 hR'))
structure Fine (s : St) : Prop where
 on : s.objs.length ≤ 500
 ov : ∀ o ∈ s.objs, o.vers.length ≤ 500
 en : s.ents.length ≤ 500
theorem Aqd {s : St} (hs : Fine s) {h d} : FunOk Tryz.prog 53 [.agg (Ba s)] h d (.agg (A6 s (.os d) (Fe s))) [.new d (.row 15 (s.objs.map Ap))] := by
 have a1 : s.objs.length ≤ 1000 := Nat.le_trans hs.on (by omega);have a2 : ∀ o ∈ s.objs, o.vers.length ≤ 1000 := fun o ho => Nat.le_trans (hs.ov o ho) (by omega);have a3 : s.ents.length ≤ 1000 := Nat.le_trans hs.en (by omega);by_cases h0 : s.objs = []
 · rw [h0];refine FunOk.nilos (a := [.vec 8 (vE s.known)]) (b := [Fe s, .vec 8 (iE s.wards), .vec 8 (wE s.ret)]) (z := 0) (sz := 15) ?_ rfl rfl (by omega);refine Aq Af fn53 (by simp) rfl rfl fun F => ?_;exact Tc a1 a2 a3 (fun _ _ => rfl) fun e => absurd h0 e
 · refine Asb (X := fun n => .agg (A6 s (.os n) (Fe s))) Af fn53 (by simp) rfl (fun V V' ρ ρ' n d v hV he hc => Aex (a := [.vec 8 (vE s.known)]) (b := [Fe s, .vec 8 (iE s.wards), .vec 8 (wE s.ret)]) hV he rfl rfl hc) fun F => ?_;exact Tc a1 a2 a3 (fun e => absurd e h0) fun _ h hh => ⟨40, rfl, hh⟩
theorem Y3 {s : St} (hs : Fine s) {h d} : FunOk Tryz.prog 53 [.agg (Ba s)] h d (.agg (Ba s)) [] := by
 have a1 : s.objs.length ≤ 1000 := Nat.le_trans hs.on (by omega);have a2 : ∀ o ∈ s.objs, o.vers.length ≤ 1000 := fun o ho => Nat.le_trans (hs.ov o ho) (by omega);have a3 : s.ents.length ≤ 1000 := Nat.le_trans hs.en (by omega);refine Ame (l := [.vec 8 (vE s.known)]) (r := [Fe s, .vec 8 (iE s.wards), .vec 8 (wE s.ret)]) Af fn53 (by simp) rfl rfl rfl fun F => ?_;exact Tc a1 a2 a3 (fun e h => .inr ⟨0, rfl, by rw [e]; rfl⟩) fun _ h hh => .inl ⟨40, rfl, hh⟩
def Ajw : List SV → List PV → Prop
 | [], cs => cs = []
 | .pv x :: l, cs => ∃ r, cs = x :: r ∧ Ajw l r
 | .vec n c :: l, cs => c.length = n ∧ ∃ r, cs = c ++ r ∧ Ajw l r
 | _ :: _, _ => False
theorem Td {V : View} {ρ : Nat → Value} : ∀ {l : List SV} {cs : List PV} {vs : List Value}, Ajw l cs → PCells V cs vs → Cells V ρ l vs
 | [], cs, vs, h, hp => by
   have h : cs = [] := h;subst h;simp only [Cells];exact List.eq_nil_of_length_eq_zero hp.1.symm
 | .pv x :: l, cs, vs, h, hp => by
   obtain ⟨r, rfl, h⟩ := h;simp only [Cells];obtain ⟨v, hv, hx⟩ := hp.2 0 x rfl;cases vs with
   | nil => cases hv
   | cons u us =>
     have : u = v := by simpa using hv
     subst this;have hf : Ax u = [u] := by have := hx.one; cases u <;> simp_all [Ax, A9]
     refine ⟨u, us, by rw [hf]; rfl, by simp only [Conc]; exact hx, by rw [hf]; rfl, fun c hc => ?_, Td h ⟨by simpa using hp.1, fun j y hy => by simpa using hp.2 (j + 1) y (by simpa using hy)⟩⟩;rw [hf] at hc;rw [List.mem_singleton.1 hc];exact hx.one
 | .vec n c :: l, cs, vs, h, hp => by
   obtain ⟨hn, r, rfl, h⟩ := h;simp only [Cells];have hl : c.length + r.length = vs.length := by simpa using hp.1
   have hA : PCells V c (vs.take n) := ⟨by simp; omega, fun j y hy => by
    have hj := (List.getElem?_eq_some_iff.1 hy).1;obtain ⟨v, h1, h2⟩ := hp.2 j y (by rw [List.getElem?_append_left hj]; exact hy);exact ⟨v, by rw [List.getElem?_take_of_lt (by omega)]; exact h1, h2⟩⟩
   refine ⟨.agg ⟨vs.take n⟩, vs.drop n, (List.take_append_drop n vs).symm, by simp only [Conc]; exact ⟨_, rfl, by simp; omega, hA⟩, by simp [Ax, SV.width]; omega, fun x hx => hA.one x hx, Td h ⟨by simp; omega, fun j y hy => by
    obtain ⟨v, h1, h2⟩ := hp.2 (n + j) y (by rw [List.getElem?_append_right (by omega)]; simpa [hn] using hy);exact ⟨v, by rw [List.getElem?_drop]; exact h1, h2⟩⟩⟩
 | .agg _ :: _, _, _, h, _ => h.elim
 | .tup _ :: _, _, _, h, _ => h.elim
 | .p _ _ :: _, _, _, h, _ => h.elim
 | .ps _ _ :: _, _, _, h, _ => h.elim
 | .pr _ _ _ _ :: _, _, _, h, _ => h.elim
 | .pi _ _ _ _ :: _, _, _, h, _ => h.elim
 | .os _ :: _, _, _, h, _ => h.elim
 | .ov _ _ _ _ :: _, _, _, h, _ => h.elim
 | .fn _ _ :: _, _, _, h, _ => h.elim
 | .dead :: _, _, _, h, _ => h.elim
theorem Axh {l : List SV} {cs : List PV} {n : Nat} (h : Ajw l cs) : Imp (.vec n cs) (.agg l) := by
 intro V ρ v hv;simp only [Conc] at hv ⊢;obtain ⟨vs, rfl, _, hp⟩ := hv;exact ⟨vs, rfl, Td h hp⟩
def Aig (a b : Vc) (k : Nat) : FS := mk [(8, .pv (.i .i64 k)), (7, .vec 8 (vE a)), (4, .pv (.b false)), (3, .p 3 0)] [(3, some (.var (.vec 8 (vE b))))]
theorem Adq (a b : Vc) {h d} : FunOk Tryz.prog 58 [.vec 8 (vE a), .vec 8 (vE b)] h d (.pv (.b (decide (J1 a b)))) [] := by
 refine Aq Af fn58 (by simp) rfl rfl fun F => ?_;simp (disch := omega) only [ir58, go_sem];refine A1 Af (Aig a b) (fun k => k ≤ 8 ∧ ∀ i, i < k → a i ≤ b i) (fun k => 8 - k) 0 (by simp) (Ak ?_ ?_) fun k hk => ?_
 · simp (disch := omega) only [go_sem]
 · simp (disch := omega) only [go_sem]
 obtain ⟨hk, hle⟩ := hk;by_cases hlt : k < 8
 · by_cases hc : a k ≤ b k
   · simp (disch := omega) only [Aig, go_sem];refine Ad (k + 1) _ _ rfl ⟨by omega, fun i hi => ?_⟩ (by omega) ?_ ?_
     · by_cases e : i = k
       · subst e; exact hc
       · exact hle i (by omega)
     · simp (disch := omega) only [go_sem]
     · simp (disch := omega) only [go_sem]
   · have hn : ¬ J1 a b := fun h => hc (h k hlt);simp (disch := omega) only [Aig, hn, go_sem]
 · have hn : J1 a b := fun i hi => hle i (by omega);simp (disch := omega) only [Aig, hn, go_sem]
theorem Up (g : SlI) (h : g.ok) : Imp (.pv g.pv) (.pv (.sl g.f 2 (g.l.map Eb))) := W8 (Ia id (h.imp (fun e => by rw [e]; rfl) id) (.refl _))
def R6 (r : Int) (q : Nat) (s : List UInt8) : Ver := ⟨r, q, s, fun _ => 0⟩
theorem Ah8 (r : Int) (q : Nat) (s : List UInt8) : Imp (.agg [.vec 2 [.i .i64 r, .i .u32 q], .pv (.s s), .vec 8 (vE fun _ => 0)]) (.vec 11 (Bb (R6 r q s))) := Hh (by rfl) (Hc _)
theorem Awf {l : List Ver} {g : SlI} {r : Int} {q : Nat} {s : List UInt8} {h d} (hg : g.ok) (hs : Cv l) (hn : l.length ≤ 900) (hbn : g.l.length ≤ 900) (hm : ¬ Dj l g.l) (ho : Br l r q = none) :
 FunOk Tryz.prog 141 [.pv (.sl false 11 (l.map Bb)), .pv g.pv, .agg [.vec 2 [.i .i64 r, .i .u32 q], .pv (.s s), .vec 8 (vE fun _ => 0)]] h d (.tup [.pv (.sl false 11 ((Fp l g.l (R6 r q s)).map Bb)), .pv (.i .i64 0)]) [] := by
 refine FunOk.imp (args' := [.pv (.sl false 11 (l.map Bb)), .pv (.sl g.f 2 (g.l.map Eb)), .vec 11 (Bb (R6 r q s))]) ?_ ⟨Imp.refl _, Up g hg, Ah8 r q s, trivial⟩ (by simp [A3, tn]);refine Zm Af fn141 (by simp) rfl rfl fun F => ?_;exact Ajv hs hn hbn (fun h => absurd h hm) (fun _ h => by
  have ho' : Br l (R6 r q s).rep (R6 r q s).seq = none := ho;rw [ho'] at h; cases h) (fun _ _ g n hg => .inl ⟨n, rfl, hg⟩)
theorem Adx {l : List Ver} {g : SlI} {r : Int} {q : Nat} {s : List UInt8} {h d} (hg : g.ok) (hs : Cv l) (hn : l.length ≤ 900) (hbn : g.l.length ≤ 900) (hm : Dj l g.l) :
 FunOk Tryz.prog 141 [.pv (.sl false 11 (l.map Bb)), .pv g.pv, .agg [.vec 2 [.i .i64 r, .i .u32 q], .pv (.s s), .vec 8 (vE fun _ => 0)]] h d (.tup [.pv (.sl true 0 []), .pv (.i .i64 2)]) [] := by
 refine FunOk.imp (args' := [.pv (.sl false 11 (l.map Bb)), .pv (.sl g.f 2 (g.l.map Eb)), .vec 11 (Bb (R6 r q s))]) ?_ ⟨Imp.refl _, Up g hg, Ah8 r q s, trivial⟩ (by simp [A3, tn]);exact Agk rfl rfl hs hn hbn hm
def Em (e : Evt) : Bo := match e.base.l with
 | [] => (0, 0)
 | b :: _ => b
def Fi (l : List Ver) (e : Evt) : List UInt8 :=
 if e.kind = 5 then e.data
 else if e.kind = 4 then O4 (D2 l (Em e).1 (Em e).2).1 e.off.toNat
 else I0 (D2 l (Em e).1 (Em e).2).1 e.off.toNat e.data
structure FitsW (l : List Ver) (e : Evt) : Prop where
 k : e.kind = 3 ∨ e.kind = 4 ∨ e.kind = 5
 off : e.kind ≠ 5 → 0 ≤ e.off ∧ e.off ≤ 200
 len : e.kind = 3 → e.off + e.data.length ≤ 200
 data : ∀ v ∈ l, v.data.length ≤ 200
theorem Zs {l : List Ver} (h : ∀ v ∈ l, v.data.length ≤ 200) (r : Int) (q : Nat) : (D2 l r q).1.length ≤ 200 := by
 unfold D2;split
 · simp
 · split
   · rename_i v hv; exact h v (Zo hv).1
   · simp
theorem Zt (l : List Ver) (r : Int) (q : Nat) : (D2 l r q).2 = 0 ∨ (D2 l r q).2 = 2 := by
 unfold D2;split
 · exact .inl rfl
 · split
   · exact .inl rfl
   · exact .inr rfl
set_option maxHeartbeats 2000000 in
theorem Ai1 {l : List Ver} {e : Evt} (he : ev e) (hf : FitsW l e) (hs : Cv l) (hn : l.length ≤ 900) {h d} :
 FunOk Tryz.prog 140 [.pv (.sl false 11 (l.map Bb)), .vec 21 (Be e)] h d (if e.kind = 5 ∨ (D2 l (Em e).1 (Em e).2).2 = 0 then .tup [.pv (.s (Fi l e)), .pv (.i .i64 0)] else .tup [.pv (.s []), .pv (.i .i64 2)]) [] := by
 refine Aq Af fn140 (by simp) rfl (by split <;> rfl) fun F => ?_;by_cases h5 : e.kind = 5
 · rw [if_pos (.inl h5)];have hb : Fi l e = e.data := if_pos h5;simp (disch := omega) only [ir140, Ag, h5, Hf, hb, go_sem]
 · have hz : (if e.kind = 5 ∨ (D2 l (Em e).1 (Em e).2).2 = 0 then (SV.tup [.pv (.s (Fi l e)), .pv (.i .i64 0)]) else .tup [.pv (.s []), .pv (.i .i64 2)]) = if (D2 l (Em e).1 (Em e).2).2 = 0 then (SV.tup [.pv (.s (Fi l e)), .pv (.i .i64 0)]) else .tup [.pv (.s []), .pv (.i .i64 2)] := by
    by_cases hd : (D2 l (Em e).1 (Em e).2).2 = 0
    · rw [if_pos (.inr hd), if_pos hd]
    · rw [if_neg (fun q => q.elim h5 hd), if_neg hd]
   rw [hz];have hoff := hf.off h5;have hdl := Zs hf.data (Em e).1 (Em e).2;have hpv : e.base.pv = .sl e.base.f e.base.z (e.base.l.map Eb) := rfl;cases hbl : e.base.l with
   | nil =>
     obtain ⟨b, hb⟩ : ∃ b : Bo, b = (0, 0) := ⟨_, rfl⟩
     have hbi : Em e = b := by unfold Em; rw [hbl, hb]
     simp (disch := omega) only [ir140, Ag, h5, Fl, hpv, hbl, List.map_nil, go_sem];rw [hbi] at hdl ⊢;have hde := Zt l b.1 b.2;have hbv : Fi l e = if e.kind = 4 then O4 (D2 l b.1 b.2).1 e.off.toNat else I0 (D2 l b.1 b.2).1 e.off.toNat e.data := by unfold Fi; rw [if_neg h5, hbi]
     refine Aa (FunOk.imp (Aqb (l := l) b.1 b.2 rfl rfl hs (by omega)) ⟨Imp.refl _, by subst hb; exact Hh (by rfl) rfl, trivial⟩ (by simp [A3, tn])) ?_;generalize D2 l b.1 b.2 = w at *;by_cases hw : w.2 = 0
     · rw [if_pos hw];by_cases h4 : e.kind = 4
       · rw [if_pos h4] at hbv;have hc := Lh (data := w.1) (n := e.off) (by omega);simp (disch := omega) only [hw, Ag, h4, Jc, go_sem];refine Aa (Azt w.1 e.off (by omega)) ?_;simp (disch := omega) only [hc, hbv, go_sem]
       · rw [if_neg h4] at hbv;have h3 : e.kind = 3 := by have := hf.k; omega
         have hl := hf.len h3;have hc := Jh (data := w.1) (off := e.off) (s := e.data) (by unfold D7; omega);simp (disch := omega) only [hw, Ag, h4, Jc, Hf, go_sem];refine Aa (Aiw w.1 e.data e.off) ?_;simp (disch := omega) only [hc, hbv, go_sem]
     · rw [if_neg hw];have hw2 := hde.resolve_left hw;simp (disch := omega) only [hw2, go_sem]
   | cons b t =>
     have hbi : Em e = b := by unfold Em; rw [hbl]
     have hok : e.base.z = 2 := he.2.1.resolve_left (by rw [hbl]; simp);have h0 : (List.map Eb (b :: t))[0]? = some (Eb b) := rfl;have hpos : (0 : Int) < ((t.length : Int) + 1) := by omega
     simp (disch := omega) only [ir140, Ag, h5, Fl, hpv, hbl, hok, List.length_map, h0, El, go_sem];rw [hbi] at hdl ⊢;have hde := Zt l b.1 b.2;have hbv : Fi l e = if e.kind = 4 then O4 (D2 l b.1 b.2).1 e.off.toNat else I0 (D2 l b.1 b.2).1 e.off.toNat e.data := by unfold Fi; rw [if_neg h5, hbi]
     refine Aa (FunOk.imp (Aqb (l := l) b.1 b.2 rfl rfl hs (by omega)) ⟨Imp.refl _, Imp.refl _, trivial⟩ (by simp [A3, tn])) ?_;generalize D2 l b.1 b.2 = w at *;by_cases hw : w.2 = 0
     · rw [if_pos hw];by_cases h4 : e.kind = 4
       · rw [if_pos h4] at hbv;have hc := Lh (data := w.1) (n := e.off) (by omega);simp (disch := omega) only [hw, Ag, h4, Jc, go_sem];refine Aa (Azt w.1 e.off (by omega)) ?_;simp (disch := omega) only [hc, hbv, go_sem]
       · rw [if_neg h4] at hbv;have h3 : e.kind = 3 := by have := hf.k; omega
         have hl := hf.len h3;have hc := Jh (data := w.1) (off := e.off) (s := e.data) (by unfold D7; omega);simp (disch := omega) only [hw, Ag, h4, Jc, Hf, go_sem];refine Aa (Aiw w.1 e.data e.off) ?_;simp (disch := omega) only [hc, hbv, go_sem]
     · rw [if_neg hw];have hw2 := hde.resolve_left hw;simp (disch := omega) only [hw2, go_sem]
abbrev Aj (e : Evt) : Bo := (e.rep, e.seq)
abbrev Az (e : Evt) : Bo := (e.orep, e.oseq)
abbrev Hk (e : Evt) : Bo := (e.drep, e.dseq)
theorem Zf {l : List Obj} (hs : En l) {i : Bo} {o : Obj} (h : l[Cc l i]? = some o) (ho : o.id = i) : isO l i = true := by
 rw [Q5 hs, h]; simp [ho]
theorem As2 {l : List Ver} {e : Evt} (h : ¬ Dj l e.base.l) : (D2 l (Em e).1 (Em e).2).2 = 0 := by
 have key : ∀ b : Bo, (b = (0, 0) ∨ b ∈ e.base.l) → (D2 l b.1 b.2).2 = 0 := fun b hb => by
  by_cases hz : b.1 = 0 ∧ b.2 = 0
  · rw [Rn hz]
  · cases hv : Br l b.1 b.2 with
    | some v => rw [Mf hz hv]
    | none =>
      rcases hb with rfl | hb
      · exact absurd ⟨rfl, rfl⟩ hz
      · exact absurd ⟨b, hb, hv⟩ h
 refine key _ ?_;unfold Em;cases e.base.l with
 | nil => exact .inl rfl
 | cons b t => exact .inr List.mem_cons_self
structure StOk (s : St) : Prop where
 fine : Fine s
 so : En s.objs
 se : Dv s.ents
structure VerOk (o : Obj) (e : Evt) : Prop where
 sv : Cv o.vers
 fw : FitsW o.vers e
 new : Br o.vers e.rep e.seq = none
 bl : e.base.l.length ≤ 900
theorem Cg {rs : List Rv} {R : SV → FS → Prop} {s : FS} (h : Lw s rs fun l => R (one l) s) : Yc rs R s := ⟨s, .same s, h⟩
theorem Rd {l : List Obj} {k : Nat} {o : Obj} (h : l[k]? = some o) : (l.map Ap).getD k [] = Ap o := by
 rw [List.getD_eq_getElem?_getD, List.getElem?_map, h]; rfl
def wrO (s : St) (e : Evt) (o : Obj) : List Obj := s.objs.set (Cc s.objs (Az e)) { o with vers := Fp o.vers e.base.l (R6 e.rep e.seq (Fi o.vers e)) }
def Jf (s : St) : SV := .agg (A6 s (.os 38) (Fe s))
theorem D5 (s : St) : ∀ n ∈ tn (Jf s), n = 6 ∨ n = 38 := fun n hn => by
 simp [Jf, A6, Fe, tn, A3] at hn; exact .inr hn
set_option maxHeartbeats 4000000 in
theorem A6a {s : St} {e : Evt} {o : Obj} (hs : StOk s) (he : ev e) (ho : s.objs[Cc s.objs (Az e)]? = some o) (hid : o.id = Az e) (hd : o.dir = false) (hv : VerOk o e) (hm : ¬ Dj o.vers e.base.l) {h d}
 (hg : h 6 = some (.var (Jf s))) (h38 : h 38 = some (.row 15 (s.objs.map Ap))) :
 DeepOk Tryz.prog 106 [.p 6 0, .vec 21 (Be e)] h d (.pv (.i .i64 0)) [.new 38 (.row 15 ((wrO s e o).map Ap)), .upd 6 (.var (Jf s))] := by
 refine Ez Af fn106 (by simp) hg h38 (by decide) rfl (D5 s) fun F => ?_;have hk := hv.fw.k;have n8 : ¬ e.kind = 8 := by omega
 have n9 : ¬ e.kind = 9 := by omega
 have n1 : ¬ e.kind = 1 := by omega
 have n2 : ¬ e.kind = 2 := by omega
 have n6 : ¬ e.kind = 6 := by omega
 have n7 : ¬ e.kind = 7 := by omega
 have hi := Zf hs.so ho hid;have hlt := (List.getElem?_eq_some_iff.1 ho).1;have hel : (s.objs.map Ap)[Cc s.objs (Az e)]? = some (Ap o) := by rw [List.getElem?_map, ho]; rfl
 have hgd := Rd ho;have a1 := hs.fine.on;have a2 := hs.fine.ov o (List.mem_of_getElem? ho);have hb := Ai1 he hv.fw hv.sv (by omega) (h := fun _ => none) (d := 0);rw [if_pos (.inr (As2 hm))] at hb;simp (disch := omega) only [ir106, Jf, A6, Fe, Ag, n8, n9, n1, n2, A7, go_sem];refine Aa (Nc (l := s.objs) (Az e) rfl rfl hs.so (by omega)) ?_;simp (disch := omega) only [hi, List.length_map, n6, n7, Ag, hel, Ew, hd, E4, Bj, go_sem];refine Aa (hb.at (by simp [A3, tn])) ?_;simp (disch := omega) only [hel, E4, Fl, Aw, go_sem];have hpv : e.base.pv = .sl e.base.f e.base.z (e.base.l.map Eb) := rfl;have hA := Awf (g := e.base) (r := e.rep) (q := e.seq) (s := Fi o.vers e) he.2.1 hv.sv (by omega) hv.bl hm hv.new (h := fun _ => none) (d := 0);refine Aa (hA.at (by simp [A3, tn, hpv])) ?_;have hsp := Acz o false 11 (Fp o.vers e.base.l (R6 e.rep e.seq (Fi o.vers e)));have hset : (s.objs.map Ap).set (Cc s.objs (Az e)) (Fb false 11 { o with vers := Fp o.vers e.base.l (R6 e.rep e.seq (Fi o.vers e)) }) = (wrO s e o).map Ap := by
  unfold wrO; rw [List.map_set]; rfl
 simp (disch := omega) only [hgd, hsp, List.length_map, hset, go_sem];refine Cg ?_;simp (disch := omega) only [go_sem]
def Z7 (s : St) (e : Evt) (n : Int) : Prop := ∀ (h : Nat → Option Blk) (d : Nat), h 6 = some (.var (Jf s)) → h 38 = some (.row 15 (s.objs.map Ap)) → ∃ r X, DeepOk Tryz.prog 106 [.p 6 0, .vec 21 (Be e)] h d (.pv (.i .i64 n)) [.new 38 (.row 15 r), .upd 6 (.var X)]
set_option maxHeartbeats 4000000 in
theorem Agi {s : St} {e : Evt} {o : Obj} (hs : StOk s) (he : ev e) (ho : s.objs[Cc s.objs (Az e)]? = some o) (hid : o.id = Az e) (hd : o.dir = false) (hv : VerOk o e) (hm : Dj o.vers e.base.l) : Z7 s e 2 := by
 intro h d hg h38;have hk := hv.fw.k;have n8 : ¬ e.kind = 8 := by omega
 have n9 : ¬ e.kind = 9 := by omega
 have n1 : ¬ e.kind = 1 := by omega
 have n2 : ¬ e.kind = 2 := by omega
 have n6 : ¬ e.kind = 6 := by omega
 have n7 : ¬ e.kind = 7 := by omega
 have hi := Zf hs.so ho hid;have hlt := (List.getElem?_eq_some_iff.1 ho).1;have hel : (s.objs.map Ap)[Cc s.objs (Az e)]? = some (Ap o) := by rw [List.getElem?_map, ho]; rfl
 have hgd := Rd ho;have a1 := hs.fine.on;have a2 := hs.fine.ov o (List.mem_of_getElem? ho);have hb := Ai1 he hv.fw hv.sv (by omega) (h := fun _ => none) (d := 0);by_cases hq : e.kind = 5 ∨ (D2 o.vers (Em e).1 (Em e).2).2 = 0
 · rw [if_pos hq] at hb;refine ⟨(s.objs.map Ap).set (Cc s.objs (Az e)) (splice (Ap o) 14 [.sl true 0 []]), Jf s, Ez Af fn106 (by simp) hg h38 (by decide) rfl (D5 s) fun F => ?_⟩;simp (disch := omega) only [ir106, Jf, A6, Fe, Ag, n8, n9, n1, n2, A7, go_sem];refine Aa (Nc (l := s.objs) (Az e) rfl rfl hs.so (by omega)) ?_;simp (disch := omega) only [hi, List.length_map, n6, n7, Ag, hel, Ew, hd, E4, Bj, go_sem];refine Aa (hb.at (by simp [A3, tn])) ?_;simp (disch := omega) only [hel, E4, Fl, Aw, go_sem];have hpv : e.base.pv = .sl e.base.f e.base.z (e.base.l.map Eb) := rfl;have hA := Adx (g := e.base) (r := e.rep) (q := e.seq) (s := Fi o.vers e) he.2.1 hv.sv (by omega) hv.bl hm (h := fun _ => none) (d := 0);refine Aa (hA.at (by simp [A3, tn, hpv])) ?_;simp (disch := omega) only [hgd, List.length_map, go_sem];refine Cg ?_;simp (disch := omega) only [go_sem]
 · rw [if_neg hq] at hb;refine ⟨s.objs.map Ap, Jf s, Ez Af fn106 (by simp) hg h38 (by decide) rfl (D5 s) fun F => ?_⟩;simp (disch := omega) only [ir106, Jf, A6, Fe, Ag, n8, n9, n1, n2, A7, go_sem];refine Aa (Nc (l := s.objs) (Az e) rfl rfl hs.so (by omega)) ?_;simp (disch := omega) only [hi, List.length_map, n6, n7, Ag, hel, Ew, hd, E4, Bj, go_sem];refine Aa (hb.at (by simp [A3, tn])) ?_;simp (disch := omega) only [go_sem];refine Cg ?_;simp (disch := omega) only [go_sem]
theorem Ap6 {s : St} {e : Evt} {o : Obj} (hs : StOk s) (hk : e.kind = 3 ∨ e.kind = 4 ∨ e.kind = 5) (ho : s.objs[Cc s.objs (Az e)]? = some o) (hid : o.id = Az e) (hd : o.dir = true) : Z7 s e 23 := by
 intro h d hg h38;have n8 : ¬ e.kind = 8 := by omega
 have n9 : ¬ e.kind = 9 := by omega
 have n1 : ¬ e.kind = 1 := by omega
 have n2 : ¬ e.kind = 2 := by omega
 have n6 : ¬ e.kind = 6 := by omega
 have n7 : ¬ e.kind = 7 := by omega
 have hi := Zf hs.so ho hid;have hlt := (List.getElem?_eq_some_iff.1 ho).1;have hel : (s.objs.map Ap)[Cc s.objs (Az e)]? = some (Ap o) := by rw [List.getElem?_map, ho]; rfl
 have a1 := hs.fine.on;refine ⟨s.objs.map Ap, Jf s, Ez Af fn106 (by simp) hg h38 (by decide) rfl (D5 s) fun F => ?_⟩;simp (disch := omega) only [ir106, Jf, A6, Fe, Ag, n8, n9, n1, n2, A7, go_sem];refine Aa (Nc (l := s.objs) (Az e) rfl rfl hs.so (by omega)) ?_;simp (disch := omega) only [hi, List.length_map, n6, n7, Ag, hel, Ew, hd, E4, Bj, go_sem];refine Cg ?_;simp (disch := omega) only [go_sem]
theorem Ak1 {s : St} {e : Evt} (hs : StOk s) (hk : e.kind = 3 ∨ e.kind = 4 ∨ e.kind = 5 ∨ e.kind = 6 ∨ e.kind = 7) (hi : isO s.objs (Az e) = false) : Z7 s e 2 := by
 intro h d hg h38;have n8 : ¬ e.kind = 8 := by omega
 have n9 : ¬ e.kind = 9 := by omega
 have n1 : ¬ e.kind = 1 := by omega
 have n2 : ¬ e.kind = 2 := by omega
 have a1 := hs.fine.on;refine ⟨s.objs.map Ap, Jf s, Ez Af fn106 (by simp) hg h38 (by decide) rfl (D5 s) fun F => ?_⟩;simp (disch := omega) only [ir106, Jf, A6, Fe, Ag, n8, n9, n1, n2, A7, go_sem];refine Aa (Nc (l := s.objs) (Az e) rfl rfl hs.so (by omega)) ?_;simp (disch := omega) only [hi, go_sem];refine Cg ?_;simp (disch := omega) only [go_sem]
theorem Na {s : St} (i : Bo) {h d} (hs : En s.objs) (hn : s.objs.length ≤ 1000) (h38 : h 38 = some (.row 15 (s.objs.map Ap))) :
 FunOk Tryz.prog 135 [.agg [.vec 8 (vE s.known), .os 38, .pv (.sl false 15 (s.ents.map Bn)), .vec 8 (iE s.wards), .vec 8 (wE s.ret)], .vec 2 [.i .i64 i.1, .i .u32 i.2]] h d (.pv (.i .i64 (Kw s.objs i))) [] :=
 FunOk.lend (n := 38) (h' := h) (d' := d) h38 (by simp [A3, tn]) (by simp [A3, tn, SV.frz, SV.frzL]) rfl (Ap4 (s := s) i hs hn)
def Wv (e : Evt) : Obj := ⟨Aj e, decide (e.kind = 2), Aj e, e.name, fun _ => 0, []⟩
def Gl (e : Evt) (obj : Bo) : Ent := ⟨Aj e, Hk e, e.name, obj, fun _ => 0⟩
theorem Ayb (e : Evt) (obj : Bo) : Imp (.agg [.vec 2 [.i .i64 e.rep, .i .u32 e.seq], .vec 2 [.i .i64 e.drep, .i .u32 e.dseq], .pv (.s e.name), .vec 2 [.i .i64 obj.1, .i .u32 obj.2], .vec 8 (vE fun _ => 0)]) (.vec 15 (Bn (Gl e obj))) := Hh (by rfl) (Du _)
theorem Abc {l : List Ent} (e : Evt) (obj : Bo) {h d} (hs : Dv l) (hn : l.length ≤ 1000) :
 FunOk Tryz.prog 138 [.pv (.sl false 15 (l.map Bn)), .agg [.vec 2 [.i .i64 e.rep, .i .u32 e.seq], .vec 2 [.i .i64 e.drep, .i .u32 e.dseq], .pv (.s e.name), .vec 2 [.i .i64 obj.1, .i .u32 obj.2], .vec 8 (vE fun _ => 0)]] h d (.os d) [.new d (.row 15 ((Ru l (Gl e obj)).map Bn))] :=
 FunOk.imp (A2a (l := l) (Gl e obj) rfl rfl hs hn) ⟨Imp.refl _, Ayb e obj, trivial⟩ (by simp [A3, tn])
set_option maxHeartbeats 4000000 in
theorem Ak3 {s : St} {e : Evt} (hs : StOk s) (hk : e.kind = 1 ∨ e.kind = 2) (hd : Kw s.objs (Hk e) ≠ 0) : Z7 s e (Kw s.objs (Hk e)) := by
 intro h d hg h38;have n8 : ¬ e.kind = 8 := by omega
 have n9 : ¬ e.kind = 9 := by omega
 have a1 := hs.fine.on;refine ⟨s.objs.map Ap, Jf s, Ez Af fn106 (by simp) hg h38 (by decide) rfl (D5 s) fun F => ?_⟩;rcases hk with hk | hk
 all_goals
  simp (disch := omega) only [ir106, Jf, A6, Fe, Ag, n8, n9, hk, Dk, go_sem];refine Aa (Na (s := s) (Hk e) hs.so (by omega) rfl) ?_;simp (disch := omega) only [hd, go_sem];refine Cg ?_;simp (disch := omega) only [go_sem]
def mkS (s : St) (e : Evt) : St := { s with objs := s.objs.take (Cc s.objs (Aj e)) ++ Wv e :: s.objs.drop (Cc s.objs (Aj e)), ents := Ru s.ents (Gl e (Aj e)) }
set_option maxHeartbeats 4000000 in
theorem A6b {s : St} {e : Evt} (hs : StOk s) (hk : e.kind = 1 ∨ e.kind = 2) (hd : Kw s.objs (Hk e) = 0) {h d}
 (hg : h 6 = some (.var (Jf s))) (h38 : h 38 = some (.row 15 (s.objs.map Ap))) :
 DeepOk Tryz.prog 106 [.p 6 0, .vec 21 (Be e)] h d (.pv (.i .i64 0)) [.new 38 (.row 15 ((s.objs.map Ap).take (Cc s.objs (Aj e)) ++ Fb true 0 (Wv e) :: (s.objs.map Ap).drop (Cc s.objs (Aj e)))), .upd 6 (.var (Jf (mkS s e)))] := by
 have n8 : ¬ e.kind = 8 := by omega
 have n9 : ¬ e.kind = 9 := by omega
 have a1 := hs.fine.on;have a3 := hs.fine.en;refine Ez Af fn106 (by simp) hg h38 (by decide) rfl (D5 _) fun F => ?_;rcases hk with hk | hk
 · skip
   simp (disch := omega) only [ir106, Jf, A6, Fe, Ag, n8, n9, hk, Dk, go_sem];refine Aa (Na (s := s) (Hk e) hs.so (by omega) rfl) ?_;simp (disch := omega) only [hd, Aw, go_sem];refine Aa (Nc (l := s.objs) (Aj e) rfl rfl hs.so (by omega)) ?_;have hN : ∀ b, b = decide (e.kind = 2) → (PV.i .i64 e.rep :: .i .u32 e.seq :: .b b :: .i .i64 e.rep :: .i .u32 e.seq :: .s e.name :: ((vE fun _ => 0) ++ [.sl true 0 []])) = Fb true 0 (Wv e) := fun b hb => by subst hb; rfl
   have hN := hN false (by simp [hk]);have hl9 : ((vE fun _ => 0) ++ [PV.sl true 0 []]).length = 9 := by simp [Bk]
   simp (disch := omega) only [Aw, Ag, hk, Dn, hN, hl9, Ef, go_sem];have hp := Lx s.objs (Aj e);refine Aa (Ap1 (m := 38) (n := 75) (s.objs.map Ap) (Fb true 0 (Wv e)) (Cc s.objs (Aj e)) (by simpa using hp) (by simp; omega) (Y5 _) (Ef _ _ _) (by decide) (by decide) (by decide) (by decide) rfl rfl) ?_;simp (disch := omega) only [Aw, Dk, Dn, go_sem];refine Aa (Abc (l := s.ents) e (Aj e) hs.se (by omega)) ?_;simp (disch := omega) only [go_sem];refine ⟨_, Ed 93 rfl (Es 76 38 (by decide) rfl (.same _)), ?_⟩
   (try simp only [B9, B0, Bz, Bx, Bw, Bv, Bu, Bt]); simp (disch := omega) only [mkS, go_sem]
 · skip
   simp (disch := omega) only [ir106, Jf, A6, Fe, Ag, n8, n9, hk, Dk, go_sem];refine Aa (Na (s := s) (Hk e) hs.so (by omega) rfl) ?_;simp (disch := omega) only [hd, Aw, go_sem];refine Aa (Nc (l := s.objs) (Aj e) rfl rfl hs.so (by omega)) ?_;have hN : ∀ b, b = decide (e.kind = 2) → (PV.i .i64 e.rep :: .i .u32 e.seq :: .b b :: .i .i64 e.rep :: .i .u32 e.seq :: .s e.name :: ((vE fun _ => 0) ++ [.sl true 0 []])) = Fb true 0 (Wv e) := fun b hb => by subst hb; rfl
   have hN := hN true (by simp [hk]);have hl9 : ((vE fun _ => 0) ++ [PV.sl true 0 []]).length = 9 := by simp [Bk]
   simp (disch := omega) only [Aw, Ag, hk, Dn, hN, hl9, Ef, go_sem];have hp := Lx s.objs (Aj e);refine Aa (Ap1 (m := 38) (n := 75) (s.objs.map Ap) (Fb true 0 (Wv e)) (Cc s.objs (Aj e)) (by simpa using hp) (by simp; omega) (Y5 _) (Ef _ _ _) (by decide) (by decide) (by decide) (by decide) rfl rfl) ?_;simp (disch := omega) only [Aw, Dk, Dn, go_sem];refine Aa (Abc (l := s.ents) e (Aj e) hs.se (by omega)) ?_;simp (disch := omega) only [go_sem];refine ⟨_, Ed 93 rfl (Es 76 38 (by decide) rfl (.same _)), ?_⟩
   (try simp only [B9, B0, Bz, Bx, Bw, Bv, Bu, Bt]); simp (disch := omega) only [mkS, go_sem]
def Ii (s : St) (e : Evt) : St := { s with wards := E9 s.wards (e.rep - 1).toNat e.ward }
def Oy (s : St) (e : Evt) : St := { s with ret := E9 s.ret (e.rep - 1).toNat true }
theorem V1 (s : St) {k : Nat} (hk : k < 8) (n : Int) (a b : PV) : splice (vE s.known ++ a :: b :: (iE s.wards ++ wE s.ret)) (10 + k) [.i .i64 n] = vE s.known ++ a :: b :: (iE (E9 s.wards k n) ++ wE s.ret) := by
 rw [← Yt hk];simp only [splice, vE, iE, wE, Cz];have hk2 : k = 0 ∨ k = 1 ∨ k = 2 ∨ k = 3 ∨ k = 4 ∨ k = 5 ∨ k = 6 ∨ k = 7 := by omega
 rcases hk2 with rfl | rfl | rfl | rfl | rfl | rfl | rfl | rfl <;> rfl
theorem Aas (s : St) {k : Nat} (hk : k < 8) (n : Bool) (a b : PV) : splice (vE s.known ++ a :: b :: (iE s.wards ++ wE s.ret)) (18 + k) [.b n] = vE s.known ++ a :: b :: (iE s.wards ++ wE (E9 s.ret k n)) := by
 rw [← Ys hk];simp only [splice, vE, iE, wE, Cz];have hk2 : k = 0 ∨ k = 1 ∨ k = 2 ∨ k = 3 ∨ k = 4 ∨ k = 5 ∨ k = 6 ∨ k = 7 := by omega
 rcases hk2 with rfl | rfl | rfl | rfl | rfl | rfl | rfl | rfl <;> rfl
theorem Sa (s : St) : Imp (.vec 26 (vE s.known ++ .sl false 15 (s.objs.map Ap) :: .sl false 15 (s.ents.map Bn) :: (iE s.wards ++ wE s.ret))) (.agg (Ba s)) :=
 Axh ⟨Bk _, _, rfl, _, rfl, _, rfl, S5 _, _, rfl, R5 _, [], by simp, rfl⟩
theorem Ak2 {s : St} {e : Evt} (hk : e.kind = 8) (hr : 1 ≤ e.rep ∧ e.rep ≤ 8) {h d} (hg : h 6 = some (.var (.agg (Ba s)))) :
 FunOk Tryz.prog 106 [.p 6 0, .vec 21 (Be e)] h d (.pv (.i .i64 0)) [.upd 6 (.var (.agg (Ba (Ii s e))))] := by
 refine Gg (g := 6) Af fn106 (by simp) (by simp [A3, tn]) (by simp [A3, tn]) hg rfl (by simp [Blk.ptr, SV.kill]) rfl (fun _ => rfl) fun F => ?_;obtain ⟨k, hk8, hre⟩ : ∃ k : Nat, k < 8 ∧ e.rep - 1 = k := ⟨(e.rep - 1).toNat, by omega, by omega⟩
 have hS : Ii s e = { s with wards := E9 s.wards k e.ward } := by unfold Ii; rw [hre]; rfl
 have hsp := V1 s hk8 e.ward (.sl false 15 (s.objs.map Ap)) (.sl false 15 (s.ents.map Bn));rw [hS];simp (disch := omega) only [ir106, Ba, A6, Blk.ptr, Ag, hk, De, Ux, hre, hsp, go_sem];refine ⟨mk [(4, .pv (.i .i64 0)), (1000000, .p 6 0)] [(6, some (.var (.agg (Ba { s with wards := E9 s.wards k e.ward }))))], Ak ?_ ?_, ?_⟩
 · simp (disch := omega) only [go_sem]
 · simp (disch := omega) only [go_sem];exact ⟨Sa { s with wards := E9 s.wards k e.ward }, rfl⟩
 (try simp only [B9, B0, Bz, Bx, Bw, Bv, Bu, Bt]); simp (disch := omega) only [go_sem]
 exact ⟨6, rfl, rfl⟩
theorem Ap8 {s : St} {e : Evt} (hk : e.kind = 9) (hr : 1 ≤ e.rep ∧ e.rep ≤ 8) {h d} (hg : h 6 = some (.var (.agg (Ba s)))) :
 FunOk Tryz.prog 106 [.p 6 0, .vec 21 (Be e)] h d (.pv (.i .i64 0)) [.upd 6 (.var (.agg (Ba (Oy s e))))] := by
 refine Gg (g := 6) Af fn106 (by simp) (by simp [A3, tn]) (by simp [A3, tn]) hg rfl (by simp [Blk.ptr, SV.kill]) rfl (fun _ => rfl) fun F => ?_;obtain ⟨k, hk8, hre⟩ : ∃ k : Nat, k < 8 ∧ e.rep - 1 = k := ⟨(e.rep - 1).toNat, by omega, by omega⟩
 have hS : Oy s e = { s with ret := E9 s.ret k true } := by unfold Oy; rw [hre]; rfl
 have hsp := Aas s hk8 true (.sl false 15 (s.objs.map Ap)) (.sl false 15 (s.ents.map Bn));rw [hS];simp (disch := omega) only [ir106, Ba, A6, Blk.ptr, Ag, hk, De, hre, hsp, go_sem];refine ⟨mk [(4, .pv (.i .i64 0)), (1000000, .p 6 0)] [(6, some (.var (.agg (Ba { s with ret := E9 s.ret k true }))))], Ak ?_ ?_, ?_⟩
 · simp (disch := omega) only [go_sem]
 · simp (disch := omega) only [go_sem];exact ⟨Sa { s with ret := E9 s.ret k true }, rfl⟩
 (try simp only [B9, B0, Bz, Bx, Bw, Bv, Bu, Bt]); simp (disch := omega) only [go_sem]
 exact ⟨6, rfl, rfl⟩
theorem Ain (s : St) (es : List (List PV)) : Blk.frz 38 (.sl false 15 es) (.var (Jf s)) = .var (.agg (A6 s (.pv (.sl false 15 es)) (Fe s))) := by
 simp [Jf, A6, Fe, Blk.frz, SV.frz, SV.frzL]
theorem Ap7 {s : St} {e : Evt} (hk : e.kind = 8) (hr : 1 ≤ e.rep ∧ e.rep ≤ 8) {h d} (hg : h 6 = some (.var (Jf s))) (h38 : h 38 = some (.row 15 (s.objs.map Ap))) :
 DeepOk Tryz.prog 106 [.p 6 0, .vec 21 (Be e)] h d (.pv (.i .i64 0)) [.frz 38 (.sl false 15 (s.objs.map Ap)), .upd 6 (.var (.agg (Ba (Ii s e))))] :=
 DeepOk.frz (args' := [.p 6 0, .vec 21 (Be e)]) (h' := fun k => if k = 38 then none else (h k).map (Blk.frz 38 (.sl false 15 (s.objs.map Ap)))) (d' := d) h38 rfl (fun k _ => rfl) (Ak2 hk hr (by show (h 6).map _ = _; rw [hg, Option.map_some, Ain]; rfl))
theorem Awa {s : St} {e : Evt} (hk : e.kind = 9) (hr : 1 ≤ e.rep ∧ e.rep ≤ 8) {h d} (hg : h 6 = some (.var (Jf s))) (h38 : h 38 = some (.row 15 (s.objs.map Ap))) :
 DeepOk Tryz.prog 106 [.p 6 0, .vec 21 (Be e)] h d (.pv (.i .i64 0)) [.frz 38 (.sl false 15 (s.objs.map Ap)), .upd 6 (.var (.agg (Ba (Oy s e))))] :=
 DeepOk.frz (args' := [.p 6 0, .vec 21 (Be e)]) (h' := fun k => if k = 38 then none else (h k).map (Blk.frz 38 (.sl false 15 (s.objs.map Ap)))) (d' := d) h38 rfl (fun k _ => rfl) (Ap8 hk hr (by show (h 6).map _ = _; rw [hg, Option.map_some, Ain]; rfl))
def Ag1 (l : List Bo) (i : Bo) : Int := match l.findIdx? (fun x => decide (i = x)) with
 | some k => k
 | none => -1
def Aih (f : Bool) (l : List Bo) (i : Bo) (k : Nat) : FS := mk [(8, .pv (.i .i64 k)), (7, .pv (.i .i64 l.length)), (0, .pv (.sl f 2 (l.map Eb))), (3, .p 3 0)] [(3, some (.var (.vec 2 [.i .i64 i.1, .i .u32 i.2])))]
set_option maxHeartbeats 1000000 in
theorem Ap3 {f : Bool} {l : List Bo} (i : Bo) {h d} (hn : l.length ≤ 1000) : FunOk Tryz.prog 172 [.pv (.sl f 2 (l.map Eb)), .vec 2 [.i .i64 i.1, .i .u32 i.2]] h d (.pv (.i .i64 (Ag1 l i))) [] := by
 refine Aq Af fn172 (by simp) rfl rfl fun F => ?_;simp (disch := omega) only [ir172, List.length_map, go_sem];refine A1 Af (Aih f l i) (fun k => k ≤ l.length ∧ ∀ j x, j < k → l[j]? = some x → i ≠ x) (fun k => l.length - k) 0 ⟨by simp, fun j x hj => absurd hj (Nat.not_lt_zero j)⟩ (Ak ?_ ?_) fun k hk => ?_
 · simp (disch := omega) only [go_sem]
 · simp (disch := omega) only [go_sem]
 obtain ⟨hk1, hk2⟩ := hk;by_cases hlt : k < l.length
 · have hx : l[k]? = some l[k] := List.getElem?_eq_getElem hlt;have he : (l.map Eb)[k]? = some (Eb l[k]) := by rw [List.getElem?_map, hx]; rfl
   generalize l[k] = b at *;by_cases hb : i = b
   · have hp := Ft hb;have e : Ag1 l i = k := by
      have : l.findIdx? (fun x => decide (i = x)) = some k := by
       rw [List.findIdx?_eq_some_iff_getElem];refine ⟨hlt, by rw [List.getElem?_eq_getElem hlt] at hx; cases hx; simpa using hb, fun j hj => ?_⟩;have := hk2 j _ hj (List.getElem?_eq_getElem (by omega));simpa using this
      unfold Ag1; rw [this]
     simp (disch := omega) only [Aih, List.length_map, he, El, Ae, hp, e, go_sem]
   · have hp := Fu hb;simp (disch := omega) only [Aih, List.length_map, he, El, Ae, hp, go_sem];refine Ad (k + 1) _ _ rfl ⟨by omega, fun j x hj hjx => ?_⟩ (by omega) ?_ ?_
     · by_cases ej : j = k
       · subst ej; rw [hx] at hjx; cases hjx; exact hb
       · exact hk2 j x (by omega) hjx
     · simp (disch := omega) only [go_sem]
     · simp (disch := omega) only [go_sem]
 · obtain rfl : k = l.length := by omega
   have e : Ag1 l i = -1 := by
    have : l.findIdx? (fun x => decide (i = x)) = none := by
     rw [List.findIdx?_eq_none_iff];intro x hx;obtain ⟨j, hj⟩ := List.mem_iff_getElem?.1 hx;have := hk2 j x (List.getElem?_eq_some_iff.1 hj).1 hj;simpa using this
    unfold Ag1; rw [this]
   simp (disch := omega) only [Aih, e, go_sem]
theorem Arv (l : List Bo) (i : Bo) : decide (0 ≤ Ag1 l i) = decide (i ∈ l) := by
 unfold Ag1;cases h : l.findIdx? (fun x => decide (i = x)) with
 | some k =>
   have := List.findIdx?_eq_some_iff_getElem.1 h;obtain ⟨h1, h2, _⟩ := this;have h3 : i = l[k] := by simpa using h2
   have : i ∈ l := by rw [h3]; exact List.getElem_mem h1
   simp only [this, decide_true, decide_eq_true_eq]; omega
 | none =>
   have h2 := List.findIdx?_eq_none_iff.1 h;have : ¬ i ∈ l := fun hm => by have := h2 i hm; simp at this
   simp only [this, decide_false, decide_eq_false_iff_not]; omega
theorem Tw (g : SlI) (i : Bo) (hg : g.ok) {h d} (hn : g.l.length ≤ 1000) : FunOk Tryz.prog 157 [.pv g.pv, .vec 2 [.i .i64 i.1, .i .u32 i.2]] h d (.pv (.b (decide (i ∈ g.l)))) [] := by
 refine FunOk.imp (args' := [.pv (.sl g.f 2 (g.l.map Eb)), .vec 2 [.i .i64 i.1, .i .u32 i.2]]) ?_ ⟨Up g hg, Imp.refl _, trivial⟩ (by simp [A3, tn]);refine Aq Af fn157 (by simp) rfl rfl fun F => ?_;have e := Arv g.l i;simp (disch := omega) only [ir157, go_sem];refine Aa (Ap3 (l := g.l) i hn) ?_;simp (disch := omega) only [e, go_sem]
def Ey (e : Evt) (x : Ent) : Bool := decide (x.obj = Az e) && decide (x.id ∈ e.gone.l)
def Fo (e : Evt) (l m : List Ent) : List Ent := m.foldl (fun a x => if Ey e x = true then killL a x.id (Aj e) else a) l
theorem Xc (e : Evt) (l m : List Ent) (x : Ent) : Fo e l (m ++ [x]) = if Ey e x = true then killL (Fo e l m) x.id (Aj e) else Fo e l m := by
 simp [Fo, List.foldl_append]
theorem L9 {e : Evt} {l : List Ent} (h : Dv l) : ∀ m : List Ent, Dv (Fo e l m) := fun m => by
 unfold Fo
 induction m generalizing l with
 | nil => exact h
 | cons x m ih =>
   simp only [List.foldl_cons];split
   · exact ih (Akg h _ _)
   · exact ih h
theorem S7 {e : Evt} {l : List Ent} : ∀ m : List Ent, (Fo e l m).length = l.length := fun m => by
 unfold Fo
 induction m generalizing l with
 | nil => rfl
 | cons x m ih =>
   simp only [List.foldl_cons];split
   · rw [ih]; exact Aw0 _ _ _
   · exact ih
def Acy (s : St) (e : Evt) (i k : Nat) : FS := mk [(27, .pv (.i .i64 k)), (26, .pv (.i .i64 s.ents.length)), (25, .pv (.sl false 15 (s.ents.map Bn))), (5, .p 5 0), (0, .p 6 0), (1, .pr 38 15 i 0), (1000000, .p 6 0)] [(5, some (.var (.vec 21 (Be e)))), (6, some (.var (.agg (A6 s (.os 38) (.pv (.sl false 15 ((Fo e s.ents (s.ents.take k)).map Bn))))))), (38, some (.row 15 (s.objs.map Ap)))]
theorem Ao4 {α : Type} {l : List α} {i : Nat} {x : α} (h : l[i]? = some x) : l.set i x = l := by
 obtain ⟨h1, h2⟩ := List.getElem?_eq_some_iff.1 h;rw [← h2]; exact List.set_getElem_self h1
def T1 (s : St) (e : Evt) (i : Nat) (o : Obj) : St := { s with objs := s.objs.set i { o with seen := C1 o.seen (A8 e.dep e.rep e.seq) }, ents := Fo e s.ents s.ents }
set_option maxHeartbeats 4000000 in
theorem Agg {s : St} {e : Evt} {o : Obj} {i : Nat} (hs : StOk s) (he : ev e) (hk : e.kind = 6) (ho : s.objs[i]? = some o) {h d}
 (hg : h 6 = some (.var (Jf s))) (h38 : h 38 = some (.row 15 (s.objs.map Ap))) :
 DeepOk Tryz.prog 139 [.p 6 0, .pr 38 15 i 0, .vec 21 (Be e)] h d (.pv (.i .i64 0)) [.new 38 (.row 15 ((T1 s e i o).objs.map Ap)), .upd 6 (.var (Jf (T1 s e i o)))] := by
 refine Ez Af fn139 (by simp) hg h38 (by decide) rfl (D5 _) fun F => ?_;have hil := (List.getElem?_eq_some_iff.1 ho).1;have hel : (s.objs.map Ap)[i]? = some (Ap o) := by rw [List.getElem?_map, ho]; rfl
 have hgd := Rd ho;have a3 := hs.fine.en;simp (disch := omega) only [ir139, Jf, A6, Fe, Ag, hk, List.length_map, go_sem];refine A1 Af (Acy s e i) (fun k => k ≤ s.ents.length) (fun k => s.ents.length - k) 0 (by simp) (Ak ?_ ?_) fun k hk => ?_
 · simp (disch := omega) only [go_sem]
 · simp (disch := omega) only [A6, Fo, List.take_zero, List.foldl_nil, go_sem]
 by_cases hlt : k < s.ents.length
 · have hx : s.ents[k]? = some s.ents[k] := List.getElem?_eq_getElem hlt;have hel : (s.ents.map Bn)[k]? = some (Bn s.ents[k]) := by rw [List.getElem?_map, hx]; rfl
   have ht := Dc hx;have hsn := Xc e s.ents (s.ents.take k) s.ents[k];rw [← ht] at hsn;generalize s.ents[k] = x at *;have hel15 := Du x;have hsoK := L9 (e := e) hs.se (s.ents.take k);have hlK := S7 (e := e) (l := s.ents) (s.ents.take k);by_cases h1 : x.obj = Az e
   · have hp := Ft h1;have hpv : e.gone.pv = .sl e.gone.f e.gone.z (e.gone.l.map Eb) := rfl;simp (disch := omega) only [Acy, A6, List.length_map, hel, Fg, hel15, C8, A7, Bp, Ae, hp, Ge, Dl, go_sem];refine Aa (Tw e.gone x.id he.1 he.2.2.1) ?_;by_cases h2 : x.id ∈ e.gone.l
     · have hg : Ey e x = true := by unfold Ey; simp [h1, h2]
       rw [if_pos hg] at hsn;simp (disch := omega) only [h2, Dl, Aw, go_sem];refine Aa (Aiz (l := Fo e s.ents (s.ents.take k)) x.id (Aj e) rfl rfl hsoK (by omega)) ?_;simp (disch := omega) only [go_sem];refine ⟨k + 1, by omega, by omega, Ed 52 rfl (Ak ?_ ?_)⟩
       · simp (disch := omega) only [go_sem]
       · simp (disch := omega) only [A6, hsn, go_sem]
     · have hg : ¬ Ey e x = true := by unfold Ey; simp [h2]
       rw [if_neg hg] at hsn;simp (disch := omega) only [h2, go_sem];refine Ad (k + 1) _ _ rfl (by omega) (by omega) ?_ ?_
       · simp (disch := omega) only [go_sem]
       · simp (disch := omega) only [A6, hsn, go_sem]
   · have hp := Fu h1;have hg : ¬ Ey e x = true := by unfold Ey; simp [h1]
     rw [if_neg hg] at hsn;simp (disch := omega) only [Acy, A6, List.length_map, hel, Fg, hel15, C8, A7, Bp, Ae, hp, Dl, go_sem];refine Ad (k + 1) _ _ rfl (by omega) (by omega) ?_ ?_
     · simp (disch := omega) only [go_sem]
     · simp (disch := omega) only [A6, hsn, go_sem]
 obtain rfl : k = s.ents.length := by omega
 have htk : s.ents.take s.ents.length = s.ents := List.take_length;simp (disch := omega) only [Acy, A6, htk, Ag, hk, hel, L3, Fd, Aw, go_sem];refine Aa (Aa2 e.dep e.rep e.seq) ?_;simp (disch := omega) only [go_sem];refine Aa (A12 o.seen (A8 e.dep e.rep e.seq)) ?_;have hsp := Vy o (C1 o.seen (A8 e.dep e.rep e.seq));have hset : (s.objs.map Ap).set i (Ap { o with seen := C1 o.seen (A8 e.dep e.rep e.seq) }) = (T1 s e i o).objs.map Ap := by
  unfold T1; rw [List.map_set]
 have hvl := Bk (C1 o.seen (A8 e.dep e.rep e.seq));simp (disch := omega) only [hgd, hsp, List.length_map, hset, go_sem];refine Cg ?_;simp (disch := omega) only [T1, go_sem]
def Wx (e : Evt) (o : Obj) : Obj := if Cp o.last.1 o.last.2 e.rep e.seq = true then { o with last := Aj e, name := e.name } else o
def Ng (s : St) (e : Evt) (i : Nat) (o : Obj) : St := { s with objs := s.objs.set i (Wx e o), ents := Ru (Fo e s.ents s.ents) (Gl e (Az e)) }
set_option maxHeartbeats 4000000 in
theorem Agf {s : St} {e : Evt} {o : Obj} {i : Nat} (hs : StOk s) (he : ev e) (hk : e.kind = 7) (hd : Kw s.objs (Hk e) = 0) (ho : s.objs[i]? = some o) {h d}
 (hg : h 6 = some (.var (Jf s))) (h38 : h 38 = some (.row 15 (s.objs.map Ap))) :
 DeepOk Tryz.prog 139 [.p 6 0, .pr 38 15 i 0, .vec 21 (Be e)] h d (.pv (.i .i64 0)) [.new 38 (.row 15 ((Ng s e i o).objs.map Ap)), .upd 6 (.var (Jf (Ng s e i o)))] := by
 refine Ez Af fn139 (by simp) hg h38 (by decide) rfl (D5 _) fun F => ?_;have hil := (List.getElem?_eq_some_iff.1 ho).1;have hel : (s.objs.map Ap)[i]? = some (Ap o) := by rw [List.getElem?_map, ho]; rfl
 have hgd := Rd ho;have a1 := hs.fine.on;have a3 := hs.fine.en;simp (disch := omega) only [ir139, Jf, A6, Fe, Ag, hk, Dk, go_sem];refine Aa (Na (s := s) (Hk e) hs.so (by omega) rfl) ?_;simp (disch := omega) only [hd, List.length_map, go_sem];refine A1 Af (Acy s e i) (fun k => k ≤ s.ents.length) (fun k => s.ents.length - k) 0 (by simp) (Ak ?_ ?_) fun k hk => ?_
 · simp (disch := omega) only [go_sem]
 · simp (disch := omega) only [A6, Fo, List.take_zero, List.foldl_nil, go_sem]
 by_cases hlt : k < s.ents.length
 · have hx : s.ents[k]? = some s.ents[k] := List.getElem?_eq_getElem hlt;have hel : (s.ents.map Bn)[k]? = some (Bn s.ents[k]) := by rw [List.getElem?_map, hx]; rfl
   have ht := Dc hx;have hsn := Xc e s.ents (s.ents.take k) s.ents[k];rw [← ht] at hsn;generalize s.ents[k] = x at *;have hel15 := Du x;have hsoK := L9 (e := e) hs.se (s.ents.take k);have hlK := S7 (e := e) (l := s.ents) (s.ents.take k);by_cases h1 : x.obj = Az e
   · have hp := Ft h1;have hpv : e.gone.pv = .sl e.gone.f e.gone.z (e.gone.l.map Eb) := rfl;simp (disch := omega) only [Acy, A6, List.length_map, hel, Fg, hel15, C8, A7, Bp, Ae, hp, Ge, Dl, go_sem];refine Aa (Tw e.gone x.id he.1 he.2.2.1) ?_;by_cases h2 : x.id ∈ e.gone.l
     · have hg : Ey e x = true := by unfold Ey; simp [h1, h2]
       rw [if_pos hg] at hsn;simp (disch := omega) only [h2, Dl, Aw, go_sem];refine Aa (Aiz (l := Fo e s.ents (s.ents.take k)) x.id (Aj e) rfl rfl hsoK (by omega)) ?_;simp (disch := omega) only [go_sem];refine ⟨k + 1, by omega, by omega, Ed 52 rfl (Ak ?_ ?_)⟩
       · simp (disch := omega) only [go_sem]
       · simp (disch := omega) only [A6, hsn, go_sem]
     · have hg : ¬ Ey e x = true := by unfold Ey; simp [h2]
       rw [if_neg hg] at hsn;simp (disch := omega) only [h2, go_sem];refine Ad (k + 1) _ _ rfl (by omega) (by omega) ?_ ?_
       · simp (disch := omega) only [go_sem]
       · simp (disch := omega) only [A6, hsn, go_sem]
   · have hp := Fu h1;have hg : ¬ Ey e x = true := by unfold Ey; simp [h1]
     rw [if_neg hg] at hsn;simp (disch := omega) only [Acy, A6, List.length_map, hel, Fg, hel15, C8, A7, Bp, Ae, hp, Dl, go_sem];refine Ad (k + 1) _ _ rfl (by omega) (by omega) ?_ ?_
     · simp (disch := omega) only [go_sem]
     · simp (disch := omega) only [A6, hsn, go_sem]
 obtain rfl : k = s.ents.length := by omega
 have htk : s.ents.take s.ents.length = s.ents := List.take_length;have hsG := L9 (e := e) hs.se s.ents;have hlG := S7 (e := e) (l := s.ents) s.ents;simp (disch := omega) only [Acy, A6, htk, Ag, hk, Aw, Dk, Dn, A7, go_sem];refine Aa (Abc (l := Fo e s.ents s.ents) e (Az e) hsG (by omega)) ?_;simp (disch := omega) only [hel, H0, Aw, go_sem];refine Aa (M8 o.last.1 o.last.2 e.rep e.seq) ?_;by_cases hl : Cp o.last.1 o.last.2 e.rep e.seq = true
 · have hmo : Wx e o = { o with last := Aj e, name := e.name } := if_pos hl;have hsp := V0 o (Aj e);have hsp2 := Vz { o with last := Aj e } e.name;have hset : ((s.objs.map Ap).set i (Ap { o with last := Aj e })).set i (Ap { o with last := Aj e, name := e.name }) = (Ng s e i o).objs.map Ap := by
    unfold Ng; rw [List.set_set, List.map_set, hmo]
   have hgd2 : ((s.objs.map Ap).set i (Ap { o with last := Aj e })).getD i [] = Ap { o with last := Aj e } := by
    rw [List.getD_eq_getElem?_getD, List.getElem?_set_self (by simpa using hil)]; rfl
   simp (disch := omega) only [hl, go_sem];refine Nx ?_;simp (disch := omega) only [Aw, Dn, hgd, hsp, List.length_map, List.length_set, hgd2, hsp2, hset, go_sem];refine ⟨_, Ed 86 rfl (.same _), ?_⟩
   (try simp only [B9, B0, Bz, Bx, Bw, Bv, Bu, Bt]); simp (disch := omega) only [Ng, go_sem]
 · have hmo : Wx e o = o := if_neg hl;have hl' : Cp o.last.1 o.last.2 e.rep e.seq = false := by simpa using hl
   have hset : s.objs.map Ap = (Ng s e i o).objs.map Ap := by
    unfold Ng; rw [hmo];show _ = (s.objs.set i o).map Ap;rw [Ao4 ho]
   simp (disch := omega) only [hl', go_sem];refine ⟨_, Ed 86 rfl (.same _), ?_⟩
   (try simp only [B9, B0, Bz, Bx, Bw, Bv, Bu, Bt]); simp (disch := omega) only [Ng, go_sem]
   exact congrArg (fun q => some (Blk.row 15 q)) hset
theorem Age {s : St} {e : Evt} {i : Nat} (hs : StOk s) (hk : e.kind = 7) (hd : Kw s.objs (Hk e) ≠ 0) {h d}
 (hg : h 6 = some (.var (Jf s))) (h38 : h 38 = some (.row 15 (s.objs.map Ap))) :
 DeepOk Tryz.prog 139 [.p 6 0, .pr 38 15 i 0, .vec 21 (Be e)] h d (.pv (.i .i64 (Kw s.objs (Hk e)))) [.new 38 (.row 15 (s.objs.map Ap)), .upd 6 (.var (Jf s))] := by
 refine Ez Af fn139 (by simp) hg h38 (by decide) rfl (D5 _) fun F => ?_;have a1 := hs.fine.on;simp (disch := omega) only [ir139, Jf, A6, Fe, Ag, hk, Dk, go_sem];refine Aa (Na (s := s) (Hk e) hs.so (by omega) rfl) ?_;simp (disch := omega) only [hd, go_sem];refine Cg ?_;simp (disch := omega) only [go_sem]
set_option maxHeartbeats 4000000 in
theorem Aqa {s : St} {e : Evt} {o : Obj} (hs : StOk s) (he : ev e) (hk : e.kind = 6) (ho : s.objs[Cc s.objs (Az e)]? = some o) (hid : o.id = Az e) {h d}
 (hg : h 6 = some (.var (Jf s))) (h38 : h 38 = some (.row 15 (s.objs.map Ap))) :
 DeepOk Tryz.prog 106 [.p 6 0, .vec 21 (Be e)] h d (.pv (.i .i64 0)) [.new 38 (.row 15 ((T1 s e (Cc s.objs (Az e)) o).objs.map Ap)), .upd 6 (.var (Jf (T1 s e (Cc s.objs (Az e)) o)))] := by
 refine Ez Af fn106 (by simp) hg h38 (by decide) rfl (D5 _) fun F => ?_;have n8 : ¬ e.kind = 8 := by omega
 have n9 : ¬ e.kind = 9 := by omega
 have n1 : ¬ e.kind = 1 := by omega
 have n2 : ¬ e.kind = 2 := by omega
 have hi := Zf hs.so ho hid;have hlt := (List.getElem?_eq_some_iff.1 ho).1;have a1 := hs.fine.on;simp (disch := omega) only [ir106, Jf, A6, Fe, Ag, n8, n9, n1, n2, A7, go_sem];refine Aa (Nc (l := s.objs) (Az e) rfl rfl hs.so (by omega)) ?_;simp (disch := omega) only [hi, List.length_map, hk, Ag, Bj, go_sem];refine H4 (Agg hs he hk ho rfl rfl) ?_;simp (disch := omega) only [Jf, A6, Fe, go_sem];refine Cg ?_;simp (disch := omega) only [go_sem]
set_option maxHeartbeats 4000000 in
theorem Ap9 {s : St} {e : Evt} {o : Obj} (hs : StOk s) (he : ev e) (hk : e.kind = 7) (hd : Kw s.objs (Hk e) = 0) (ho : s.objs[Cc s.objs (Az e)]? = some o) (hid : o.id = Az e) {h d}
 (hg : h 6 = some (.var (Jf s))) (h38 : h 38 = some (.row 15 (s.objs.map Ap))) :
 DeepOk Tryz.prog 106 [.p 6 0, .vec 21 (Be e)] h d (.pv (.i .i64 0)) [.new 38 (.row 15 ((Ng s e (Cc s.objs (Az e)) o).objs.map Ap)), .upd 6 (.var (Jf (Ng s e (Cc s.objs (Az e)) o)))] := by
 refine Ez Af fn106 (by simp) hg h38 (by decide) rfl (D5 _) fun F => ?_;have n8 : ¬ e.kind = 8 := by omega
 have n9 : ¬ e.kind = 9 := by omega
 have n1 : ¬ e.kind = 1 := by omega
 have n2 : ¬ e.kind = 2 := by omega
 have hi := Zf hs.so ho hid;have hlt := (List.getElem?_eq_some_iff.1 ho).1;have a1 := hs.fine.on;simp (disch := omega) only [ir106, Jf, A6, Fe, Ag, n8, n9, n1, n2, A7, go_sem];refine Aa (Nc (l := s.objs) (Az e) rfl rfl hs.so (by omega)) ?_;simp (disch := omega) only [hi, List.length_map, hk, Ag, Bj, go_sem];refine H4 (Agf hs he hk hd ho rfl rfl) ?_;simp (disch := omega) only [Jf, A6, Fe, go_sem];refine Cg ?_;simp (disch := omega) only [go_sem]
set_option maxHeartbeats 4000000 in
theorem Aba {s : St} {e : Evt} {o : Obj} (hs : StOk s) (hk : e.kind = 7) (hd : Kw s.objs (Hk e) ≠ 0) (ho : s.objs[Cc s.objs (Az e)]? = some o) (hid : o.id = Az e) : Z7 s e (Kw s.objs (Hk e)) := by
 intro h d hg h38;refine ⟨s.objs.map Ap, Jf s, Ez Af fn106 (by simp) hg h38 (by decide) rfl (D5 s) fun F => ?_⟩;have n8 : ¬ e.kind = 8 := by omega
 have n9 : ¬ e.kind = 9 := by omega
 have n1 : ¬ e.kind = 1 := by omega
 have n2 : ¬ e.kind = 2 := by omega
 have hi := Zf hs.so ho hid;have hlt := (List.getElem?_eq_some_iff.1 ho).1;have a1 := hs.fine.on;simp (disch := omega) only [ir106, Jf, A6, Fe, Ag, n8, n9, n1, n2, A7, go_sem];refine Aa (Nc (l := s.objs) (Az e) rfl rfl hs.so (by omega)) ?_;simp (disch := omega) only [hi, List.length_map, hk, Ag, Bj, go_sem];refine H4 (Age hs hk hd rfl rfl) ?_;simp (disch := omega) only [Jf, A6, Fe, go_sem];refine Cg ?_;simp (disch := omega) only [go_sem]
end Go.Proofs.YthmjebkldgdeiaaGreat.Fw
namespace Go.Proofs.YthmjebkldgdeiaaGreat.Fw
open Go.RowKit Go.Proofs
def Fc (l : List Obj) (i : Bo) : Option Obj := match l[Cc l i]? with
 | some o => if o.id = i then some o else none
 | none => none
theorem Gz {l : List Obj} {i : Bo} {o : Obj} (h : Fc l i = some o) : l[Cc l i]? = some o ∧ o.id = i := by
 unfold Fc at h;split at h
 · rename_i u hu;split at h
   · rename_i hi; cases h; exact ⟨hu, hi⟩
   · cases h
 · cases h
theorem Alv {l : List Obj} (hs : En l) (i : Bo) : isO l i = (Fc l i).isSome := by
 rw [Q5 hs]; unfold Fc;cases l[Cc l i]? with
 | none => rfl
 | some x => simp only; by_cases h : x.id = i <;> simp [h]
theorem Ahe {l : List Obj} (i : Bo) : Kw l i = if i = (0, 0) then 0 else match Fc l i with | some o => if o.dir = true then 0 else 22 | none => 2 := by
 unfold Kw Fc;split
 · rfl
 · cases l[Cc l i]? with
   | none => rfl
   | some x => simp only; by_cases h : x.id = i <;> simp [h]
open Classical in
noncomputable def Ub (s : St) (e : Evt) : Int :=
 if e.kind = 8 ∨ e.kind = 9 then 0
 else if e.kind = 1 ∨ e.kind = 2 then Kw s.objs (Hk e)
 else match Fc s.objs (Az e) with
  | none => 2
  | some o => if e.kind = 7 then Kw s.objs (Hk e) else if e.kind = 6 then 0 else if o.dir = true then 23 else if Dj o.vers e.base.l then 2 else 0
def doS (s : St) (e : Evt) : St :=
 if e.kind = 8 then Ii s e
 else if e.kind = 9 then Oy s e
 else if e.kind = 1 ∨ e.kind = 2 then mkS s e
 else match Fc s.objs (Az e) with
  | none => s
  | some o => if e.kind = 7 then Ng s e (Cc s.objs (Az e)) o else if e.kind = 6 then T1 s e (Cc s.objs (Az e)) o else { s with objs := wrO s e o }
noncomputable def Ff (s : St) (e : Evt) : Int :=
 if Bm e = false then 7
 else if Bg s.known e.rep e.seq = true then 11
 else if ¬ J1 e.dep s.known then 10
 else if s.ret (e.rep - 1).toNat = true then 28
 else Ub s e
def Hg (s : St) (e : Evt) : St := { s with known := A8 s.known e.rep e.seq }
def Hp (s : St) (e : Evt) : St := doS (Hg s e) e
structure StIn (s : St) : Prop extends StOk s where
 sv : ∀ o ∈ s.objs, Cv o.vers
 sd : ∀ o ∈ s.objs, ∀ v ∈ o.vers, v.data.length ≤ 200
 sk : ∀ o ∈ s.objs, ∀ v ∈ o.vers, Bg s.known v.rep v.seq = true
theorem Cy {e : Evt} (h : Bm e = true) : Iv e := by
 unfold Bm at h;simp only [Bool.and_eq_true, decide_eq_true_eq] at h;exact h.1
theorem Xs {e : Evt} (h : Bm e = true) (hk : e.kind = 3 ∨ e.kind = 4 ∨ e.kind = 5) {l : List Ver} (hd : ∀ v ∈ l, v.data.length ≤ 200) : FitsW l e := by
 unfold Bm at h;simp only [Bool.and_eq_true, decide_eq_true_eq] at h;have hK := h.2.2.2;refine ⟨hk, fun h5 => ?_, fun h3 => ?_, hd⟩
 · have : e.kind = 3 ∨ e.kind = 4 := by omega
   rcases this with h3 | h4
   · rw [Kf h3] at hK;simp only [Bool.and_eq_true, Cw, decide_eq_true_eq] at hK;exact hK.2.2.1
   · rw [Ok h4] at hK;simp only [Bool.and_eq_true, Cw, decide_eq_true_eq] at hK;exact hK.2.2
 · rw [Kf h3] at hK;simp only [Bool.and_eq_true, Cw, decide_eq_true_eq] at hK;exact hK.2.2.2.2.2.2
theorem Pe {e : Evt} (h : Bm e = true) (hk : e.kind = 3 ∨ e.kind = 4 ∨ e.kind = 5) : e.base.l.length ≤ 8 := by
 unfold Bm at h;simp only [Bool.and_eq_true, decide_eq_true_eq] at h;have hK := h.2.2.2;rcases hk with h3 | h3 | h3
 · rw [Kf h3] at hK;simp only [Bool.and_eq_true, Eg, decide_eq_true_eq] at hK;have := hK.2.1.1; omega
 · rw [Ok h3] at hK;simp only [Bool.and_eq_true, Eg, decide_eq_true_eq] at hK;have := hK.2.1.1; omega
 · rw [Oj h3] at hK;simp only [Bool.and_eq_true, Eg, decide_eq_true_eq] at hK;have := hK.2.1.1; omega
structure DoIn (s : St) (e : Evt) : Prop where
 ok : StOk s
 ev : ev e
 ck : Bm e = true
 vo : e.kind = 3 ∨ e.kind = 4 ∨ e.kind = 5 → ∀ o ∈ s.objs, VerOk o e
theorem A8l {s : St} {e : Evt} (hi : DoIn s e) (hw : Ub s e ≠ 0) : Z7 s e (Ub s e) := by
 have hb := Cy hi.ck;obtain ⟨b1, b2, b3, b4, b5, b6, b7⟩ := hb;unfold Ub at hw ⊢;rcases Classical.em (e.kind = 8 ∨ e.kind = 9) with h89 | h89
 · rw [if_pos h89] at hw; exact absurd rfl hw
 rw [if_neg h89] at hw ⊢;rcases Classical.em (e.kind = 1 ∨ e.kind = 2) with h12 | h12
 · rw [if_pos h12] at hw ⊢;exact Ak3 hi.ok h12 hw
 rw [if_neg h12] at hw ⊢;have hk : e.kind = 3 ∨ e.kind = 4 ∨ e.kind = 5 ∨ e.kind = 6 ∨ e.kind = 7 := by omega
 cases ho : Fc s.objs (Az e) with
 | none =>
   have : isO s.objs (Az e) = false := by rw [Alv hi.ok.so, ho]; rfl
   exact Ak1 hi.ok hk this
 | some o =>
   rw [ho] at hw;simp only at hw ⊢;obtain ⟨g1, g2⟩ := Gz ho;rcases Classical.em (e.kind = 7) with h7 | h7
   · rw [if_pos h7] at hw ⊢;exact Aba hi.ok h7 hw g1 g2
   rw [if_neg h7] at hw ⊢;rcases Classical.em (e.kind = 6) with h6 | h6
   · rw [if_pos h6] at hw; exact absurd rfl hw
   rw [if_neg h6] at hw ⊢;have hk : e.kind = 3 ∨ e.kind = 4 ∨ e.kind = 5 := by omega
   rcases Classical.em (o.dir = true) with hd | hd
   · rw [if_pos hd]; exact Ap6 hi.ok hk g1 g2 hd
   rw [if_neg hd] at hw ⊢;rcases Classical.em (Dj o.vers e.base.l) with hm | hm
   · rw [if_pos hm]; exact Agi hi.ok hi.ev g1 g2 (by simpa using hd) (hi.vo hk o (List.mem_of_getElem? g1)) hm
   · rw [if_neg hm] at hw; exact absurd rfl hw
theorem Bbb {s : St} {e : Evt} (hi : DoIn s e) (hw : Ub s e = 0) (hk : ¬ (e.kind = 8 ∨ e.kind = 9)) : ∃ r, PImpR r ((doS s e).objs.map Ap) ∧
 ∀ {h : Nat → Option Blk} {d : Nat}, h 6 = some (.var (Jf s)) → h 38 = some (.row 15 (s.objs.map Ap)) → DeepOk Tryz.prog 106 [.p 6 0, .vec 21 (Be e)] h d (.pv (.i .i64 0)) [.new 38 (.row 15 r), .upd 6 (.var (Jf (doS s e)))] := by
 have hb := Cy hi.ck;obtain ⟨b1, b2, b3, b4, b5, b6, b7⟩ := hb;have n8 : ¬ e.kind = 8 := fun h => hk (.inl h);have n9 : ¬ e.kind = 9 := fun h => hk (.inr h);unfold Ub at hw;unfold doS;rw [if_neg hk] at hw;rw [if_neg n8, if_neg n9];by_cases h12 : e.kind = 1 ∨ e.kind = 2
 · rw [if_pos h12] at hw ⊢;refine ⟨_, ?_, fun hg h38 => A6b hi.ok h12 hw hg h38⟩;simp only [mkS, List.map_append, List.map_take, List.map_drop, List.map_cons];exact PImpR.app (.refl _) ⟨Ai3 (Wv e) (.inl rfl), .refl _⟩
 rw [if_neg h12] at hw ⊢;have hk' : e.kind = 3 ∨ e.kind = 4 ∨ e.kind = 5 ∨ e.kind = 6 ∨ e.kind = 7 := by omega
 cases ho : Fc s.objs (Az e) with
 | none => rw [ho] at hw; cases hw
 | some o =>
   rw [ho] at hw;simp only at hw ⊢;obtain ⟨g1, g2⟩ := Gz ho;by_cases h7 : e.kind = 7
   · rw [if_pos h7] at hw ⊢;exact ⟨_, .refl _, fun hg h38 => Ap9 hi.ok hi.ev h7 hw g1 g2 hg h38⟩
   rw [if_neg h7] at hw ⊢;by_cases h6 : e.kind = 6
   · rw [if_pos h6];exact ⟨_, .refl _, fun hg h38 => Aqa hi.ok hi.ev h6 g1 g2 hg h38⟩
   rw [if_neg h6] at hw ⊢;have hk : e.kind = 3 ∨ e.kind = 4 ∨ e.kind = 5 := by omega
   by_cases hd : o.dir = true
   · rw [if_pos hd] at hw; cases hw
   rw [if_neg hd] at hw;by_cases hm : Dj o.vers e.base.l
   · rw [if_pos hm] at hw; cases hw
   · exact ⟨_, .refl _, fun hg h38 => A6a hi.ok hi.ev g1 g2 (by simpa using hd) (hi.vo hk o (List.mem_of_getElem? g1)) hm hg h38⟩
theorem Asj {s : St} (hs : StIn s) {e : Evt} (h : Bg s.known e.rep e.seq = false) {o : Obj} (ho : o ∈ s.objs) : Br o.vers e.rep e.seq = none := by
 rw [P1];intro v hv ⟨h1, h2⟩;have := hs.sk o ho v hv;rw [h1, h2, h] at this; cases this
theorem Alq {s : St} (hs : StIn s) {e : Evt} (he : ev e) (hc : Bm e = true) (h : Bg s.known e.rep e.seq = false) : DoIn (Hg s e) e :=
 ⟨⟨⟨hs.fine.on, hs.fine.ov, hs.fine.en⟩, hs.so, hs.se⟩, he, hc, fun hk o ho => ⟨hs.sv o ho, Xs hc hk (hs.sd o ho), Asj hs h ho, Nat.le_trans (Pe hc hk) (by omega)⟩⟩
theorem Ajc (a b : PV) (w : Nat → Int) (r : Nat → Bool) {j : Nat} (hj : j < 8) (K : KK) : LoadK (some (a :: b :: (iE w ++ wE r))) (18 + j - 8) 1 false K = K (.pv (.b (r j))) [] := by
 have e : 18 + j - 8 = 10 + j := by omega
 rw [e];simp only [LoadK, H2, eq_iff_iff];have e2 : (a :: b :: (iE w ++ wE r)).getD (10 + j) (.b false) = .b (r j) := by
  have hk2 : j = 0 ∨ j = 1 ∨ j = 2 ∨ j = 3 ∨ j = 4 ∨ j = 5 ∨ j = 6 ∨ j = 7 := by omega
  simp only [iE, wE, Cz];rcases hk2 with rfl | rfl | rfl | rfl | rfl | rfl | rfl | rfl <;> rfl
 rw [e2];exact ⟨fun h => h.2.2, fun h => ⟨by simp [S5, R5]; omega, .inr trivial, h⟩⟩
theorem Uk {x y z : SV} (h : Imp x y) : Imp (.tup [x, z]) (.tup [y, z]) := Axg ⟨h, Imp.refl _, trivial⟩
noncomputable def Akq (s : St) (e : Evt) : St := if Ff s e = 0 then Hp s e else st0
theorem Qn {s : St} {e : Evt} {n : Int} (h : Ff s e = n) (hn : n ≠ 0) : Imp (.tup [.agg [.vec 8 (vE fun _ => 0), .pv (.sl true 0 []), .pv (.sl true 0 []), .vec 8 (iE fun _ => 0), .vec 8 (wE fun _ => false)], .pv (.i .i64 n)]) (.tup [.agg (Ba (Akq s e)), .pv (.i .i64 (Ff s e))]) := by
 have e1 : Akq s e = st0 := if_neg (by rw [h]; exact hn);rw [e1, h];exact Uk Ac5
set_option maxHeartbeats 8000000 in
theorem Awe {s : St} {e : Evt} (hs : StIn s) (he : ev e) {h d} : FunOk Tryz.prog 71 [.agg (Ba s), .vec 21 (Be e)] h d (.tup [.agg (Ba (Akq s e)), .pv (.i .i64 (Ff s e))]) [] := by
 refine Om Af fn71 (by simp) rfl rfl fun F => ?_;simp (disch := omega) only [ir71, Ba, A6, Bj, go_sem];refine Aa (Awd e he) ?_;by_cases hc' : Bm e = false
 · have hw : Ff s e = 7 := if_pos hc';simp (disch := omega) only [hc', go_sem];refine Cg ?_;simp (disch := omega) only [go_sem];exact Qn hw (by decide)
 have hc : Bm e = true := by simpa using hc'
 have hb := Cy hc;obtain ⟨b1, b2, _⟩ := hb;simp (disch := omega) only [hc, Aw, Fd, go_sem];refine Aa (Gy _ _ _) ?_;by_cases h1 : Bg s.known e.rep e.seq = true
 · have hw : Ff s e = 11 := by unfold Ff; rw [if_neg hc', if_pos h1]
   simp (disch := omega) only [h1, go_sem];refine Cg ?_;simp (disch := omega) only [go_sem];exact Qn hw (by decide)
 have h1' : Bg s.known e.rep e.seq = false := by simpa using h1
 simp (disch := omega) only [h1', Fd, go_sem];refine Aa (Adq _ _) ?_;by_cases h2 : J1 e.dep s.known;rotate_left
 · have hw : Ff s e = 10 := by unfold Ff; rw [if_neg hc', if_neg h1, if_pos h2]
   have h2' := decide_eq_false h2;simp (disch := omega) only [h2', go_sem];refine Cg ?_;simp (disch := omega) only [go_sem];exact Qn hw (by decide)
 have h2' := decide_eq_true h2;obtain ⟨k, hk8, hre⟩ : ∃ k : Nat, k < 8 ∧ e.rep - 1 = k := ⟨(e.rep - 1).toNat, by omega, by omega⟩
 have hld := fun (a b : PV) (w : Nat → Int) (r : Nat → Bool) (K : KK) => Ajc a b w r hk8 K;simp (disch := omega) only [h2', De, hre, hld, go_sem];by_cases h3 : s.ret k = true
 · have hw : Ff s e = 28 := by unfold Ff; rw [if_neg hc', if_neg h1, if_neg (by simpa using h2), if_pos (by rw [hre]; exact h3)]
   simp (disch := omega) only [h3, go_sem];refine Cg ?_;simp (disch := omega) only [go_sem];exact Qn hw (by decide)
 have h3' : s.ret k = false := by simpa using h3
 have hw : Ff s e = Ub (Hg s e) e := by unfold Ff; rw [if_neg hc', if_neg h1, if_neg (by simpa using h2), if_neg (by rw [hre]; exact h3)]; rfl
 simp (disch := omega) only [h3', go_sem];refine Aa (Aqd (s := s) hs.fine) ?_;simp (disch := omega) only [A6, Fe, Aw, go_sem];refine Aa (Aa2 s.known e.rep e.seq) ?_;have hvl := Bk (A8 s.known e.rep e.seq);simp (disch := omega) only [Bj, hvl, go_sem];have hdi := Alq hs he hc h1';by_cases hz : Ub (Hg s e) e = 0;rotate_left
 · generalize hH : FS.h _ = H;have g6 : H 6 = some (.var (Jf (Hg s e))) := by rw [← hH]; rfl
   have g38 : H 38 = some (.row 15 ((Hg s e).objs.map Ap)) := by rw [← hH]; rfl
   obtain ⟨r, X, hdo⟩ := A8l hdi hz H 46 g6 g38;refine H4 hdo ?_;simp (disch := omega) only [hz, go_sem];refine Cg ?_;simp (disch := omega) only [go_sem];exact Qn hw hz
 have hR : Akq s e = doS (Hg s e) e := if_pos (hw.trans hz);rw [hR, hw, hz];by_cases h8 : e.kind = 8
 · have hS : doS (Hg s e) e = Ii (Hg s e) e := if_pos h8;rw [hS];refine H4 (Ap7 (s := Hg s e) h8 ⟨b1, b2⟩ rfl rfl) ?_;simp (disch := omega) only [Ba, A6, go_sem];refine Cg ?_;simp (disch := omega) only [go_sem]
 by_cases h9 : e.kind = 9
 · have hS : doS (Hg s e) e = Oy (Hg s e) e := by unfold doS; rw [if_neg h8, if_pos h9]
   rw [hS];refine H4 (Awa (s := Hg s e) h9 ⟨b1, b2⟩ rfl rfl) ?_;simp (disch := omega) only [Ba, A6, go_sem];refine Cg ?_;simp (disch := omega) only [go_sem]
 obtain ⟨r, hr, hdo⟩ := Bbb hdi hz (fun h => h.elim h8 h9);refine H4 (hdo rfl rfl) ?_;generalize doS (Hg s e) e = S at *;simp (disch := omega) only [Jf, A6, Fe, go_sem];refine ⟨_, Ed 38 rfl (.same _), ?_⟩
 (try simp only [B9, B0, Bz, Bx, Bw, Bv, Bu, Bt]); simp (disch := omega) only [go_sem]
 exact Uk (Uq (s := S) (.inr rfl) (.inr rfl) hr (.refl _))
end Go.Proofs.YthmjebkldgdeiaaGreat.Fw
namespace Go.Proofs.YthmjebkldgdeiaaGreat.Fw
open Go.RowKit Go.Proofs
theorem Apr (r : Int) (q : Nat) {h d} : FunOk Tryz.prog 131 [.vec 2 [.i .i64 r, .i .u32 q]] h d (.pv (.b (Cj r q))) [] := by
 refine Aq Af fn131 (by simp) rfl rfl fun F => ?_;by_cases h1 : r = 0
 · by_cases h2 : q = 0
   · have e : Cj r q = true := decide_eq_true ⟨h1, h2⟩;have h2' : (q : Int) = 0 := by omega
     simp (disch := omega) only [ir131, Sx, Sw, h1, h2', e, go_sem];simp [Cj, h2]
   · have e : Cj r q = false := decide_eq_false fun h => h2 h.2;have h2' : ¬ (q : Int) = 0 := by omega
     simp (disch := omega) only [ir131, Sx, Sw, h1, h2', e, go_sem];simp [Cj, h2]
 · have e : Cj r q = false := decide_eq_false fun h => h1 h.1;simp (disch := omega) only [ir131, Sx, Sw, h1, e, go_sem]
def Aam (f : Bool) (l : List Bo) (i : Bo) (k : Nat) : FS := mk [(5, .pv (.i .i64 k)), (0, .pv (.sl f 2 (l.map Eb))), (3, .p 3 0)] [(3, some (.var (.vec 2 [.i .i64 i.1, .i .u32 i.2])))]
set_option maxHeartbeats 1000000 in
theorem Pt (g : SlI) (i : Bo) (hg : g.ok) {h d} (hn : g.l.length ≤ 1000) : FunOk Tryz.prog 99 [.pv g.pv, .vec 2 [.i .i64 i.1, .i .u32 i.2]] h d (.pv (.b (decide (i ∈ g.l)))) [] := by
 refine FunOk.imp (args' := [.pv (.sl g.f 2 (g.l.map Eb)), .vec 2 [.i .i64 i.1, .i .u32 i.2]]) ?_ ⟨Up g hg, Imp.refl _, trivial⟩ (by simp [A3, tn]);refine Aq Af fn99 (by simp) rfl rfl fun F => ?_;generalize g.f = f;generalize g.l = l at *;simp (disch := omega) only [ir99, List.length_map, go_sem];refine A1 Af (Aam f l i) (fun k => k ≤ l.length ∧ ∀ j x, j < k → l[j]? = some x → i ≠ x) (fun k => l.length - k) 0 ⟨by simp, fun j x hj => absurd hj (Nat.not_lt_zero j)⟩ (Ak ?_ ?_) fun k hk => ?_
 · simp (disch := omega) only [go_sem]
 · simp (disch := omega) only [go_sem]
 obtain ⟨hk1, hk2⟩ := hk;by_cases hlt : k < l.length
 · have hx : l[k]? = some l[k] := List.getElem?_eq_getElem hlt;have he : (l.map Eb)[k]? = some (Eb l[k]) := by rw [List.getElem?_map, hx]; rfl
   have hm := List.getElem_mem hlt;generalize l[k] = b at *;by_cases hb : b = i
   · have hp := Ft hb;have e : decide (i ∈ l) = true := decide_eq_true (hb ▸ hm);simp (disch := omega) only [Aam, List.length_map, he, El, Ae, hp, e, go_sem]
   · have hp := Fu hb;simp (disch := omega) only [Aam, List.length_map, he, El, Ae, hp, go_sem];refine Ad (k + 1) _ _ rfl ⟨by omega, fun j x hj hjx => ?_⟩ (by omega) ?_ ?_
     · by_cases ej : j = k
       · subst ej; rw [hx] at hjx; cases hjx; exact fun q => hb q.symm
       · exact hk2 j x (by omega) hjx
     · simp (disch := omega) only [go_sem]
     · simp (disch := omega) only [go_sem]
 · obtain rfl : k = l.length := by omega
   have e : decide (i ∈ l) = false := decide_eq_false fun hm => by
    obtain ⟨j, hj⟩ := List.mem_iff_getElem?.1 hm;exact hk2 j i (List.getElem?_eq_some_iff.1 hj).1 hj rfl
   simp (disch := omega) only [Aam, List.length_map, e, go_sem]
theorem An6 (v : Vc) (r : Int) (q : Nat) : vE (C1 v (Qu r q)) = vE (A8 v r q) := Ln fun i hi => (Acj v r q i hi).symm
theorem Fa (v : Vc) (r : Int) (q : Nat) {h d} : FunOk Tryz.prog 62 [.vec 8 (vE v), .vec 2 [.i .i64 r, .i .u32 q]] h d (.vec 8 (vE (A8 v r q))) [] := by
 rw [← An6]; exact Us v r q
def Bh (l : List Evt) : Vc := l.foldl (fun v e => A8 v e.rep e.seq) (fun _ => 0)
theorem Io (l : List Evt) (e : Evt) : Bh (l ++ [e]) = A8 (Bh l) e.rep e.seq := by simp [Bh]
def Aal (f : Bool) (l : List Evt) (k : Nat) : FS := mk [(4, .pv (.i .i64 k)), (0, .pv (.sl f 21 (l.map Be))), (3, .p 3 0), (2, .p 2 0)] [(3, some (.var (.vec 8 (vE (Bh (l.take k)))))), (2, some (.var (.vec 8 (vE fun _ => 0))))]
set_option maxHeartbeats 1000000 in
theorem Aa9 {x : SV} {f : Bool} {l : List Evt} {h d} (hx : Cm h [x] = [.pv (.sl f 21 (l.map Be))]) (hl : Bc [x] = true) (hn : l.length ≤ 1000) : FunOk Tryz.prog 19 [x] h d (.vec 8 (vE (Bh l))) [] := by
 refine Ci Af fn19 (by simp) hl (Aia _) fun F => ?_;rw [hx];simp (disch := omega) only [ir19, go_sem];refine A1 Af (Aal f l) (fun k => k ≤ l.length) (fun k => l.length - k) 0 (by simp) (Ak ?_ ?_) fun k hk => ?_
 · simp (disch := omega) only [go_sem]
 · simp (disch := omega) only [Bh, List.take_zero, List.foldl_nil, go_sem]
 by_cases hlt : k < l.length
 · have hx : l[k]? = some l[k] := List.getElem?_eq_getElem hlt;have he : (l.map Be)[k]? = some (Be l[k]) := by rw [List.getElem?_map, hx]; rfl
   have ht := Dc hx;generalize l[k] = e at *;have hs : Bh (l.take (k + 1)) = A8 (Bh (l.take k)) e.rep e.seq := by rw [ht, Io]
   simp (disch := omega) only [Aal, List.length_map, he, Aw, go_sem];refine Aa (Fa _ _ _) ?_;simp (disch := omega) only [go_sem];refine Ad (k + 1) _ _ rfl (by omega) (by omega) ?_ ?_
   · simp (disch := omega) only [go_sem]
   · simp (disch := omega) only [hs, go_sem]
 · obtain rfl : k = l.length := by omega
   have htk : l.take l.length = l := List.take_length;simp (disch := omega) only [Aal, List.length_map, htk, go_sem]
def Iq (l : List Evt) (i : Bo) : Option Evt := l.find? fun e => decide (Aj e = i)
def Aao (f : Bool) (l : List Evt) (i : Bo) (z : SV) (k : Nat) : FS := mk [(6, .pv (.i .i64 k)), (0, .pv (.sl f 21 (l.map Be))), (3, .p 3 0), (4, .p 4 0)] [(3, some (.var (.vec 2 [.i .i64 i.1, .i .u32 i.2]))), (4, some (.var z))]
theorem Ax3 {l : List Evt} {i : Bo} {k : Nat} {e : Evt} (h : ∀ j x, j < k → l[j]? = some x → Aj x ≠ i) (hx : l[k]? = some e) (he : Aj e = i) : Iq l i = some e := by
 obtain ⟨hlt, hg⟩ := List.getElem?_eq_some_iff.1 hx;unfold Iq;rw [List.find?_eq_some_iff_getElem];refine ⟨by simpa using he, k, hlt, hg, fun j hj => ?_⟩;simpa using h j _ hj (List.getElem?_eq_getElem (by omega))
theorem Amj {l : List Evt} {i : Bo} (h : ∀ j x, j < l.length → l[j]? = some x → Aj x ≠ i) : Iq l i = none := by
 unfold Iq;rw [List.find?_eq_none];intro x hx;obtain ⟨j, hj⟩ := List.mem_iff_getElem?.1 hx;simpa using h j x (List.getElem?_eq_some_iff.1 hj).1 hj
set_option maxHeartbeats 1000000 in
theorem Ap5 {f : Bool} {l : List Evt} (i : Bo) {h d} (hn : l.length ≤ 1000) : FunOk Tryz.prog 52 [.pv (.sl f 21 (l.map Be)), .vec 2 [.i .i64 i.1, .i .u32 i.2]] h d (match Iq l i with | some e => .tup [.vec 21 (Be e), .pv (.b true)] | none => .tup [.vec 21 (Be ⟨0, 0, fun _ => 0, 0, 0, 0, 0, 0, [], .nil, .nil, 0, [], 0⟩), .pv (.b false)]) [] := by
 refine Om Af fn52 (by simp) rfl (by split <;> rfl) fun F => ?_;simp (disch := omega) only [ir52, List.length_map, go_sem];refine A1 Af (Aao f l i (.agg [.pv (.i .i64 0), .pv (.i .u32 0), .vec 8 (vE fun _ => 0), .pv (.i .i64 0), .pv (.i .i64 0), .pv (.i .u32 0), .pv (.i .i64 0), .pv (.i .u32 0), .pv (.s []), .pv (.sl true 0 []), .pv (.sl true 0 []), .pv (.i .i64 0), .pv (.s []), .pv (.i .i64 0)])) (fun k => k ≤ l.length ∧ ∀ j x, j < k → l[j]? = some x → Aj x ≠ i) (fun k => l.length - k) 0 ⟨by simp, fun j x hj => absurd hj (Nat.not_lt_zero j)⟩ (Ak ?_ ?_) fun k hk => ?_
 · simp (disch := omega) only [go_sem]
 · simp (disch := omega) only [go_sem]
 obtain ⟨hk1, hk2⟩ := hk;by_cases hlt : k < l.length
 · have hx : l[k]? = some l[k] := List.getElem?_eq_getElem hlt;have he : (l.map Be)[k]? = some (Be l[k]) := by rw [List.getElem?_map, hx]; rfl
   generalize l[k] = e at *;by_cases hb : Aj e = i
   · have hp := Ft hb;have hf := Ax3 hk2 hx hb;rw [hf]
     (try simp only [B9, B0, Bz, Bx, Bw, Bv, Bu, Bt]); simp (disch := omega) only [Aao, List.length_map, he, Aw, Ae, hp, Bj, go_sem]
     refine Cg ?_;simp (disch := omega) only [go_sem]
   · have hp := Fu hb;simp (disch := omega) only [Aao, List.length_map, he, Aw, Ae, hp, go_sem];refine Ad (k + 1) _ _ rfl ⟨by omega, fun j x hj hjx => ?_⟩ (by omega) ?_ ?_
     · by_cases ej : j = k
       · subst ej; rw [hx] at hjx; cases hjx; exact hb
       · exact hk2 j x (by omega) hjx
     · simp (disch := omega) only [go_sem]
     · simp (disch := omega) only [go_sem]
 · obtain rfl : k = l.length := by omega
   rw [Amj hk2]
   (try simp only [B9, B0, Bz, Bx, Bw, Bv, Bu, Bt]); simp (disch := omega) only [Aao, List.length_map, go_sem]
   refine Cg ?_;simp (disch := omega) only [go_sem];exact Uk (Hh rfl (by simp [Ac]))
theorem K5 (e : Evt) {h d} : FunOk Tryz.prog 132 [.vec 21 (Be e)] h d (.pv (.b (decide (e.kind = 3 ∨ e.kind = 4 ∨ e.kind = 5)))) [] := by
 refine Aq Af fn132 (by simp) rfl rfl fun F => ?_;by_cases h3 : e.kind = 3
 · simp (disch := omega) only [ir132, Ag, h3, go_sem]
 by_cases h4 : e.kind = 4
 · simp (disch := omega) only [ir132, Ag, h4, go_sem]
 by_cases h5 : e.kind = 5
 · simp (disch := omega) only [ir132, Ag, h5, go_sem]
 · simp (disch := omega) only [ir132, Ag, h3, h4, h5, go_sem]
def Yg (s : List UInt8) (n : Int) : List UInt8 := if n < 0 ∨ 200 < n then [] else O4 s n.toNat
open Classical in
noncomputable def Ks (s : List UInt8) (n : Int) (t : List UInt8) : List UInt8 := if D7 s n t then [] else I0 s n.toNat t
noncomputable def Gm (e : Evt) (was : List UInt8) : List UInt8 := if e.kind = 5 then e.data else if e.kind = 4 then Yg was e.off else Ks was e.off e.data
noncomputable def Df (l : List Evt) : Nat → Bo → List UInt8
 | 0, _ => []
 | n + 1, i => match Iq l i with
   | none => []
   | some e => Gm e (match e.base.l with | [] => [] | b :: _ => Df l n b)
theorem Aew (s : List UInt8) (n : Nat) : (O4 s n).length = n := by
 unfold O4; split
 · simp; omega
 · simp [R0]; omega
theorem Wj (s t : List UInt8) (n : Nat) : (I0 s n t).length = max s.length (n + t.length) := by
 unfold I0; simp [R0]; omega
theorem Akb {e : Evt} (he : e.data.length ≤ 1000) (was : List UInt8) : (Gm e was).length ≤ 1000 := by
 unfold Gm;split
 · exact he
 · split
   · unfold Yg; split
     · simp
     · rw [Aew]; omega
   · unfold Ks; split
     · simp
     · rename_i h;unfold D7 at h;rw [Wj]; omega
theorem Ahk {l : List Evt} (h : ∀ e ∈ l, e.data.length ≤ 1000) (n : Nat) (i : Bo) : (Df l n i).length ≤ 1000 := by
 cases n with
 | zero => simp [Df]
 | succ n =>
   simp only [Df];split
   · simp
   · rename_i e he;exact Akb (h e (List.mem_of_find?_eq_some he)) _
def Grd (l : List Evt) (rk : Evt → Nat) : Prop := ∀ e ∈ l, e.kind ≠ 5 → ∀ b t, e.base.l = b :: t → ∀ e', Iq l b = some e' → rk e' < rk e
theorem Abb {l : List Evt} {i : Bo} (hn : l.length ≤ 1000) (hf : Iq l i = none) {x : SV} {f : Bool} {h d} (hx : Cm h [x, .vec 2 [.i .i64 i.1, .i .u32 i.2]] = [.pv (.sl f 21 (l.map Be)), .vec 2 [.i .i64 i.1, .i .u32 i.2]]) (hl : Bc [x, .vec 2 [.i .i64 i.1, .i .u32 i.2]] = true) :
 FunOk Tryz.prog 133 [x, .vec 2 [.i .i64 i.1, .i .u32 i.2]] h d (.pv (.s [])) [] := by
 refine Ci Af fn133 (by simp) hl rfl fun F => ?_;rw [hx];simp (disch := omega) only [ir133, go_sem];refine Aa (Ap5 (l := l) i hn) ?_;rw [hf]
 (try simp only [B9, B0, Bz, Bx, Bw, Bv, Bu, Bt]); simp (disch := omega) only [Ac, go_sem]
set_option maxHeartbeats 4000000 in
theorem Adw {l : List Evt} {rk : Evt → Nat} (hg : Grd l rk) (hn : l.length ≤ 1000) (hev : ∀ e ∈ l, ev e ∧ e.data.length ≤ 1000) : ∀ (n : Nat) (i : Bo), (∀ e, Iq l i = some e → rk e < n) → ∀ (x : SV) (f : Bool) (h : Nat → Option Blk) (d : Nat), Cm h [x, .vec 2 [.i .i64 i.1, .i .u32 i.2]] = [.pv (.sl f 21 (l.map Be)), .vec 2 [.i .i64 i.1, .i .u32 i.2]] → Bc [x, .vec 2 [.i .i64 i.1, .i .u32 i.2]] = true →
 FunOk Tryz.prog 133 [x, .vec 2 [.i .i64 i.1, .i .u32 i.2]] h d (.pv (.s (Df l n i))) []
 | 0, i, hr => by
   intro x f h d hx hl;have hf : Iq l i = none := by
    cases hq : Iq l i with
    | none => rfl
    | some e => exact absurd (hr e hq) (Nat.not_lt_zero _)
   exact Abb hn hf hx hl
 | n + 1, i, hr => by
   intro x f h d hx hl;refine Ci Af fn133 (by simp) hl rfl fun F => ?_;rw [hx];simp (disch := omega) only [ir133, go_sem];refine Aa (Ap5 (l := l) i hn) ?_;cases hf : Iq l i with
   | none =>
     have eB : Df l (n + 1) i = [] := by simp only [Df, hf]
     (try simp only [B9, B0, Bz, Bx, Bw, Bv, Bu, Bt]); simp (disch := omega) only [eB, Ac, go_sem]
   | some e =>
     have hm := List.mem_of_find?_eq_some hf;obtain ⟨he, hd⟩ := hev e hm;have hpv : e.base.pv = .sl e.base.f e.base.z (e.base.l.map Eb) := rfl;have hel := Ac e;by_cases h5 : e.kind = 5
     · have eB : Df l (n + 1) i = e.data := by simp only [Df, hf, Gm, if_pos h5]
       (try simp only [B9, B0, Bz, Bx, Bw, Bv, Bu, Bt]); simp (disch := omega) only [hel, Ag, h5, Hf, eB, go_sem]
     cases hbl : e.base.l with
     | nil =>
       obtain ⟨was, hwas⟩ : ∃ was : List UInt8, was = [] := ⟨_, rfl⟩
       have hwl : was.length ≤ 1000 := by rw [hwas]; simp
       have eB : Df l (n + 1) i = Gm e was := by simp only [Df, hf, hbl]; rw [hwas]
       (try simp only [B9, B0, Bz, Bx, Bw, Bv, Bu, Bt]); simp (disch := omega) only [hel, Ag, h5, Fl, hpv, hbl, List.map_nil, ← hwas, go_sem]
       by_cases h4 : e.kind = 4
       · have eS : Gm e was = Yg was e.off := by unfold Gm; rw [if_neg h5, if_pos h4]
         (try simp only [B9, B0, Bz, Bx, Bw, Bv, Bu, Bt]); simp (disch := omega) only [Ag, h4, Jc, go_sem]
         refine Aa (Aqc was e.off hwl) ?_;by_cases hb : e.off < 0 ∨ 200 < e.off
         · have ec := Jl (data := was) hb;have ew : Yg was e.off = [] := if_pos hb;simp (disch := omega) only [ec, eB, eS, ew, go_sem]
         · have ec := Lh (data := was) hb;have ew : Yg was e.off = O4 was e.off.toNat := if_neg hb;simp (disch := omega) only [ec, eB, eS, ew, go_sem]
       · have eS : Gm e was = Ks was e.off e.data := by unfold Gm; rw [if_neg h5, if_neg h4]
         (try simp only [B9, B0, Bz, Bx, Bw, Bv, Bu, Bt]); simp (disch := omega) only [Ag, h4, Jc, Hf, go_sem]
         refine Aa (Ado was e.data e.off hd) ?_;by_cases hb : D7 was e.off e.data
         · have ec := Ek hb;have ew : Ks was e.off e.data = [] := if_pos hb;simp (disch := omega) only [ec, eB, eS, ew, go_sem]
         · have ec := Jh hb;have ew : Ks was e.off e.data = I0 was e.off.toNat e.data := if_neg hb;simp (disch := omega) only [ec, eB, eS, ew, go_sem]
     | cons b t =>
       have hok : e.base.z = 2 := he.2.1.resolve_left (by rw [hbl]; simp);have h0 : (List.map Eb (b :: t))[0]? = some (Eb b) := rfl;have hpos : (0 : Int) < ((t.length : Int) + 1) := by omega
       have hrk := hg e hm h5 b t hbl;have hre := hr e hf
       (try simp only [B9, B0, Bz, Bx, Bw, Bv, Bu, Bt]); simp (disch := omega) only [hel, Ag, h5, Fl, hpv, hbl, hok, List.length_map, h0, El, go_sem]
       refine Aa (Adw hg hn hev n b (fun e' he' => by have := hrk e' he'; omega) _ f _ _ rfl rfl) ?_;have eB : Df l (n + 1) i = Gm e (Df l n b) := by simp only [Df, hf, hbl]
       have hwl := Ahk (fun e he => (hev e he).2) n b (l := l);generalize Df l n b = was at *;simp (disch := omega) only [go_sem];by_cases h4 : e.kind = 4
       · have eS : Gm e was = Yg was e.off := by unfold Gm; rw [if_neg h5, if_pos h4]
         (try simp only [B9, B0, Bz, Bx, Bw, Bv, Bu, Bt]); simp (disch := omega) only [Ag, h4, Jc, go_sem]
         refine Aa (Aqc was e.off hwl) ?_;by_cases hb : e.off < 0 ∨ 200 < e.off
         · have ec := Jl (data := was) hb;have ew : Yg was e.off = [] := if_pos hb;simp (disch := omega) only [ec, eB, eS, ew, go_sem]
         · have ec := Lh (data := was) hb;have ew : Yg was e.off = O4 was e.off.toNat := if_neg hb;simp (disch := omega) only [ec, eB, eS, ew, go_sem]
       · have eS : Gm e was = Ks was e.off e.data := by unfold Gm; rw [if_neg h5, if_neg h4]
         (try simp only [B9, B0, Bz, Bx, Bw, Bv, Bu, Bt]); simp (disch := omega) only [Ag, h4, Jc, Hf, go_sem]
         refine Aa (Ado was e.data e.off hd) ?_;by_cases hb : D7 was e.off e.data
         · have ec := Ek hb;have ew : Ks was e.off e.data = [] := if_pos hb;simp (disch := omega) only [ec, eB, eS, ew, go_sem]
         · have ec := Jh hb;have ew : Ks was e.off e.data = I0 was e.off.toNat e.data := if_neg hb;simp (disch := omega) only [ec, eB, eS, ew, go_sem]
def mkB (e : Evt) : Bool := decide (e.kind = 1 ∨ e.kind = 2 ∨ e.kind = 7)
def E0 (e : Evt) : Bo := if e.kind = 7 then Az e else Aj e
def Hw (f : Evt) (obj id : Bo) : Bool := decide (f.kind = 6 ∨ f.kind = 7) && (decide (Az f = obj) && decide (id ∈ f.gone.l))
def byG (l : List Evt) (obj id : Bo) : Vc := l.foldl (fun g f => if Hw f obj id = true then A8 g f.rep f.seq else g) fun _ => 0
theorem Rs (l : List Evt) (f : Evt) (obj id : Bo) : byG (l ++ [f]) obj id = if Hw f obj id = true then A8 (byG l obj id) f.rep f.seq else byG l obj id := by simp [byG]
def Db (m : List Evt) (e : Evt) : Ent := ⟨Aj e, Hk e, e.name, E0 e, byG m (E0 e) (Aj e)⟩
def C3 (l m : List Evt) : List Ent := m.foldl (fun out e => if mkB e = true then Fj out (Db l e) false else out) []
theorem P4 (l m : List Evt) (e : Evt) : C3 l (m ++ [e]) = if mkB e = true then Fj (C3 l m) (Db l e) false else C3 l m := by simp [C3]
theorem Sj : ∀ (l : List Ent) (x : Ent) (b : Bool), (Fj l x b).length ≤ l.length + 1
 | [], x, b => by unfold Fj; split <;> simp
 | y :: l, x, b => by
   unfold Fj;split
   · have := Sj l x true; simp only [List.length_cons]; omega
   · split
     · have : Fj l x true = Fj l x true := rfl;have h2 : ∀ l : List Ent, (Fj l x true).length ≤ l.length := fun l => by
        induction l with
        | nil => simp [Fj]
        | cons z l ih => unfold Fj; split <;> simp <;> omega
       have := h2 l;simp only [List.length_cons]; omega
     · have := Sj l x b; simp only [List.length_cons]; omega
theorem S9 (l : List Evt) : ∀ (n : Nat) (m : List Evt), m.length = n → (C3 l m).length ≤ n
 | 0, m, h => by obtain rfl := List.eq_nil_of_length_eq_zero h; simp [C3]
 | n + 1, m, h => by
   have hne : m ≠ [] := fun e => by subst e; simp at h
   have e1 := (List.dropLast_concat_getLast hne).symm;have h1 := S9 l n m.dropLast (by simp [h]);rw [e1, P4];split
   · have := Sj (C3 l m.dropLast) (Db l (m.getLast hne)) false; omega
   · omega
def Yo (f : Bool) (l : List Evt) (k : Nat) : FS := mk [(4, .pv (.i .i64 k)), (3, .os 40), (0, .pv (.sl f 21 (l.map Be)))] [(40, some (.row 15 ((C3 l (l.take k)).map Bn)))]
def Ej (f : Bool) (l : List Evt) (k : Nat) (e : Evt) (j : Nat) : FS := mk [(7, .pv (.i .i64 j)), (4, .pv (.i .i64 k)), (3, .os 40), (6, .p 6 0), (0, .pv (.sl f 21 (l.map Be)))] [(6, some (.var (.vec 15 (Bn (Db (l.take j) e))))), (40, some (.row 15 ((C3 l (l.take k)).map Bn)))]
set_option maxHeartbeats 8000000 in
theorem Y2 {x : SV} {f : Bool} {l : List Evt} {h d} (hx : Cm h [x] = [.pv (.sl f 21 (l.map Be))]) (hl : Bc [x] = true) (hn : l.length ≤ 1000) (hev : ∀ e ∈ l, ev e) : FunOk Tryz.prog 59 [x] h d (.pv (.sl false 15 ((C3 l l).map Bn))) [] := by
 refine Zl Af fn59 (by simp) hl (Jk _) fun F => ?_;rw [hx];simp (disch := omega) only [ir59, go_sem];refine A1 Af (Yo f l) (fun k => k ≤ l.length) (fun k => l.length - k) 0 (by simp) (R2 3 40 15 rfl (by omega) (Ak ?_ ?_)) fun k hk => ?_
 · simp (disch := omega) only [go_sem]
 · simp (disch := omega) only [C3, List.take_zero, List.foldl_nil, List.map_nil, go_sem]
 by_cases hlt : k < l.length
 · have hx : l[k]? = some l[k] := List.getElem?_eq_getElem hlt;have he : (l.map Be)[k]? = some (Be l[k]) := by rw [List.getElem?_map, hx]; rfl
   have ht := Dc hx;have hel := Ac l[k];have hsn := P4 l (l.take k) l[k];rw [← ht] at hsn;generalize l[k] = e at *;have hlen := S9 l _ (l.take k) rfl;have hlt' : (l.take k).length ≤ 1000 := by simp; omega
   by_cases hmk : mkB e = true;rotate_left
   · rw [if_neg hmk] at hsn;have hk3 : ¬ (e.kind = 1 ∨ e.kind = 2 ∨ e.kind = 7) := by simpa [mkB] using hmk
     have n1 : ¬ e.kind = 1 := by omega
     have n2 : ¬ e.kind = 2 := by omega
     have n7 : ¬ e.kind = 7 := by omega
     simp (disch := omega) only [Yo, List.length_map, he, Bj, hel, Ag, n1, n2, n7, go_sem];refine Ad (k + 1) _ _ rfl (by omega) (by omega) ?_ ?_
     · simp (disch := omega) only [go_sem]
     · simp (disch := omega) only [hsn, go_sem]
   rw [if_pos hmk] at hsn;have hk3 : e.kind = 1 ∨ e.kind = 2 ∨ e.kind = 7 := by simpa [mkB] using hmk
   rcases hk3 with h1 | h2 | h7
   · have hoi : E0 e = Aj e := if_neg (by omega);simp (disch := omega) only [Yo, List.length_map, he, Bj, hel, Ag, h1, Aw, Dk, Dn, go_sem];refine A1 Af (Ej f l k e) (fun j => j ≤ l.length) (fun j => l.length - j) 0 (by simp) (Ak ?_ ?_) fun j hj => ?_
     · simp (disch := omega) only [go_sem]
     · simp (disch := omega) only [Db, byG, List.take_zero, List.foldl_nil, hoi, go_sem];exact Hh rfl (Du _)
     by_cases hjl : j < l.length
     · have hx2 : l[j]? = some l[j] := List.getElem?_eq_getElem hjl;have he2 : (l.map Be)[j]? = some (Be l[j]) := by rw [List.getElem?_map, hx2]; rfl
       have ht2 := Dc hx2;have hevj := hev _ (List.getElem_mem hjl);generalize l[j] = g at *;have hB : Db (l.take (j + 1)) e = if Hw g (E0 e) (Aj e) = true then { Db (l.take j) e with gone := A8 (Db (l.take j) e).gone g.rep g.seq } else Db (l.take j) e := by
        unfold Db; rw [ht2, Rs]; split <;> rfl
       have hob : (Db (l.take j) e).obj = E0 e := rfl;have hid : (Db (l.take j) e).id = Aj e := rfl;generalize hX : Db (l.take j) e = X at *;by_cases hg : g.kind = 6 ∨ g.kind = 7;rotate_left
       · have g6 : ¬ g.kind = 6 := fun q => hg (.inl q);have g7 : ¬ g.kind = 7 := fun q => hg (.inr q);have hgo : ¬ Hw g (E0 e) (Aj e) = true := by unfold Hw; simp [hg]
         rw [if_neg hgo] at hB;simp (disch := omega) only [Ej, hX, List.length_map, he2, Ag, g6, g7, go_sem];refine Ad (j + 1) _ _ rfl (by omega) (by omega) ?_ ?_
         · simp (disch := omega) only [go_sem]
         · simp (disch := omega) only [hB, go_sem]
       have hg' := hg;rcases hg with hg6 | hg7
       · skip
         by_cases ho : Az g = X.obj;rotate_left
         · have hp := Fu ho;have hgo : ¬ Hw g (E0 e) (Aj e) = true := by
            rw [hob] at ho; unfold Hw; simp [ho]
           rw [if_neg hgo] at hB;simp (disch := omega) only [Ej, hX, List.length_map, he2, Ag, hg6, A7, C8, Ae, Bp, hp, go_sem];refine Ad (j + 1) _ _ rfl (by omega) (by omega) ?_ ?_
           · simp (disch := omega) only [go_sem]
           · simp (disch := omega) only [hB, go_sem]
         have hp := Ft ho;have hpv : g.gone.pv = .sl g.gone.f g.gone.z (g.gone.l.map Eb) := rfl;simp (disch := omega) only [Ej, hX, List.length_map, he2, Ag, hg6, A7, C8, Ae, Bp, hp, Ge, Dl, go_sem];refine Aa (Pt g.gone X.id hevj.1 hevj.2.2.1) ?_;by_cases hin : X.id ∈ g.gone.l
         · have hgo : Hw g (E0 e) (Aj e) = true := by
            rw [hob] at ho; rw [hid] at hin; unfold Hw; simp [hg', ho, hin]
           rw [if_pos hgo] at hB;have hsp := G4 X (A8 X.gone g.rep g.seq);have hvl := Bk (A8 X.gone g.rep g.seq);simp (disch := omega) only [hin, Im, List.length_map, he2, Aw, go_sem];refine Aa (Fa _ _ _) ?_;simp (disch := omega) only [hsp, hvl, go_sem];refine Ad (j + 1) _ _ rfl (by omega) (by omega) ?_ ?_
           · simp (disch := omega) only [go_sem]
           · simp (disch := omega) only [hB, go_sem]
         · have hgo : ¬ Hw g (E0 e) (Aj e) = true := by
            rw [hid] at hin; unfold Hw; simp [hin]
           rw [if_neg hgo] at hB;simp (disch := omega) only [hin, go_sem];refine Ad (j + 1) _ _ rfl (by omega) (by omega) ?_ ?_
           · simp (disch := omega) only [go_sem]
           · simp (disch := omega) only [hB, go_sem]
       · have g6 : ¬ g.kind = 6 := by omega
         by_cases ho : Az g = X.obj;rotate_left
         · have hp := Fu ho;have hgo : ¬ Hw g (E0 e) (Aj e) = true := by
            rw [hob] at ho; unfold Hw; simp [ho]
           rw [if_neg hgo] at hB;simp (disch := omega) only [Ej, hX, List.length_map, he2, Ag, g6, hg7, A7, C8, Ae, Bp, hp, go_sem];refine Ad (j + 1) _ _ rfl (by omega) (by omega) ?_ ?_
           · simp (disch := omega) only [go_sem]
           · simp (disch := omega) only [hB, go_sem]
         have hp := Ft ho;have hpv : g.gone.pv = .sl g.gone.f g.gone.z (g.gone.l.map Eb) := rfl;simp (disch := omega) only [Ej, hX, List.length_map, he2, Ag, g6, hg7, A7, C8, Ae, Bp, hp, Ge, Dl, go_sem];refine Aa (Pt g.gone X.id hevj.1 hevj.2.2.1) ?_;by_cases hin : X.id ∈ g.gone.l
         · have hgo : Hw g (E0 e) (Aj e) = true := by
            rw [hob] at ho; rw [hid] at hin; unfold Hw; simp [hg', ho, hin]
           rw [if_pos hgo] at hB;have hsp := G4 X (A8 X.gone g.rep g.seq);have hvl := Bk (A8 X.gone g.rep g.seq);simp (disch := omega) only [hin, Im, List.length_map, he2, Aw, go_sem];refine Aa (Fa _ _ _) ?_;simp (disch := omega) only [hsp, hvl, go_sem];refine Ad (j + 1) _ _ rfl (by omega) (by omega) ?_ ?_
           · simp (disch := omega) only [go_sem]
           · simp (disch := omega) only [hB, go_sem]
         · have hgo : ¬ Hw g (E0 e) (Aj e) = true := by
            rw [hid] at hin; unfold Hw; simp [hin]
           rw [if_neg hgo] at hB;simp (disch := omega) only [hin, go_sem];refine Ad (j + 1) _ _ rfl (by omega) (by omega) ?_ ?_
           · simp (disch := omega) only [go_sem]
           · simp (disch := omega) only [hB, go_sem]
     · obtain rfl : j = l.length := by omega
       have htk : l.take l.length = l := List.take_length;simp (disch := omega) only [Ej, List.length_map, htk, Fg, go_sem];refine Aa (Aa5 (l := C3 l (l.take k)) (Db l e) rfl rfl (by omega)) ?_;simp (disch := omega) only [go_sem];refine ⟨k + 1, by omega, by omega, Ed 40 rfl (Es 99 40 (by decide) rfl (Ak ?_ ?_))⟩
       · simp (disch := omega) only [go_sem]
       · simp (disch := omega) only [hsn, go_sem]
   · have hoi : E0 e = Aj e := if_neg (by omega);have n1 : ¬ e.kind = 1 := by omega
     simp (disch := omega) only [Yo, List.length_map, he, Bj, hel, Ag, n1, h2, Aw, Dk, Dn, go_sem];refine A1 Af (Ej f l k e) (fun j => j ≤ l.length) (fun j => l.length - j) 0 (by simp) (Ak ?_ ?_) fun j hj => ?_
     · simp (disch := omega) only [go_sem]
     · simp (disch := omega) only [Db, byG, List.take_zero, List.foldl_nil, hoi, go_sem];exact Hh rfl (Du _)
     by_cases hjl : j < l.length
     · have hx2 : l[j]? = some l[j] := List.getElem?_eq_getElem hjl;have he2 : (l.map Be)[j]? = some (Be l[j]) := by rw [List.getElem?_map, hx2]; rfl
       have ht2 := Dc hx2;have hevj := hev _ (List.getElem_mem hjl);generalize l[j] = g at *;have hB : Db (l.take (j + 1)) e = if Hw g (E0 e) (Aj e) = true then { Db (l.take j) e with gone := A8 (Db (l.take j) e).gone g.rep g.seq } else Db (l.take j) e := by
        unfold Db; rw [ht2, Rs]; split <;> rfl
       have hob : (Db (l.take j) e).obj = E0 e := rfl;have hid : (Db (l.take j) e).id = Aj e := rfl;generalize hX : Db (l.take j) e = X at *;by_cases hg : g.kind = 6 ∨ g.kind = 7;rotate_left
       · have g6 : ¬ g.kind = 6 := fun q => hg (.inl q);have g7 : ¬ g.kind = 7 := fun q => hg (.inr q);have hgo : ¬ Hw g (E0 e) (Aj e) = true := by unfold Hw; simp [hg]
         rw [if_neg hgo] at hB;simp (disch := omega) only [Ej, hX, List.length_map, he2, Ag, g6, g7, go_sem];refine Ad (j + 1) _ _ rfl (by omega) (by omega) ?_ ?_
         · simp (disch := omega) only [go_sem]
         · simp (disch := omega) only [hB, go_sem]
       have hg' := hg;rcases hg with hg6 | hg7
       · skip
         by_cases ho : Az g = X.obj;rotate_left
         · have hp := Fu ho;have hgo : ¬ Hw g (E0 e) (Aj e) = true := by
            rw [hob] at ho; unfold Hw; simp [ho]
           rw [if_neg hgo] at hB;simp (disch := omega) only [Ej, hX, List.length_map, he2, Ag, hg6, A7, C8, Ae, Bp, hp, go_sem];refine Ad (j + 1) _ _ rfl (by omega) (by omega) ?_ ?_
           · simp (disch := omega) only [go_sem]
           · simp (disch := omega) only [hB, go_sem]
         have hp := Ft ho;have hpv : g.gone.pv = .sl g.gone.f g.gone.z (g.gone.l.map Eb) := rfl;simp (disch := omega) only [Ej, hX, List.length_map, he2, Ag, hg6, A7, C8, Ae, Bp, hp, Ge, Dl, go_sem];refine Aa (Pt g.gone X.id hevj.1 hevj.2.2.1) ?_;by_cases hin : X.id ∈ g.gone.l
         · have hgo : Hw g (E0 e) (Aj e) = true := by
            rw [hob] at ho; rw [hid] at hin; unfold Hw; simp [hg', ho, hin]
           rw [if_pos hgo] at hB;have hsp := G4 X (A8 X.gone g.rep g.seq);have hvl := Bk (A8 X.gone g.rep g.seq);simp (disch := omega) only [hin, Im, List.length_map, he2, Aw, go_sem];refine Aa (Fa _ _ _) ?_;simp (disch := omega) only [hsp, hvl, go_sem];refine Ad (j + 1) _ _ rfl (by omega) (by omega) ?_ ?_
           · simp (disch := omega) only [go_sem]
           · simp (disch := omega) only [hB, go_sem]
         · have hgo : ¬ Hw g (E0 e) (Aj e) = true := by
            rw [hid] at hin; unfold Hw; simp [hin]
           rw [if_neg hgo] at hB;simp (disch := omega) only [hin, go_sem];refine Ad (j + 1) _ _ rfl (by omega) (by omega) ?_ ?_
           · simp (disch := omega) only [go_sem]
           · simp (disch := omega) only [hB, go_sem]
       · have g6 : ¬ g.kind = 6 := by omega
         by_cases ho : Az g = X.obj;rotate_left
         · have hp := Fu ho;have hgo : ¬ Hw g (E0 e) (Aj e) = true := by
            rw [hob] at ho; unfold Hw; simp [ho]
           rw [if_neg hgo] at hB;simp (disch := omega) only [Ej, hX, List.length_map, he2, Ag, g6, hg7, A7, C8, Ae, Bp, hp, go_sem];refine Ad (j + 1) _ _ rfl (by omega) (by omega) ?_ ?_
           · simp (disch := omega) only [go_sem]
           · simp (disch := omega) only [hB, go_sem]
         have hp := Ft ho;have hpv : g.gone.pv = .sl g.gone.f g.gone.z (g.gone.l.map Eb) := rfl;simp (disch := omega) only [Ej, hX, List.length_map, he2, Ag, g6, hg7, A7, C8, Ae, Bp, hp, Ge, Dl, go_sem];refine Aa (Pt g.gone X.id hevj.1 hevj.2.2.1) ?_;by_cases hin : X.id ∈ g.gone.l
         · have hgo : Hw g (E0 e) (Aj e) = true := by
            rw [hob] at ho; rw [hid] at hin; unfold Hw; simp [hg', ho, hin]
           rw [if_pos hgo] at hB;have hsp := G4 X (A8 X.gone g.rep g.seq);have hvl := Bk (A8 X.gone g.rep g.seq);simp (disch := omega) only [hin, Im, List.length_map, he2, Aw, go_sem];refine Aa (Fa _ _ _) ?_;simp (disch := omega) only [hsp, hvl, go_sem];refine Ad (j + 1) _ _ rfl (by omega) (by omega) ?_ ?_
           · simp (disch := omega) only [go_sem]
           · simp (disch := omega) only [hB, go_sem]
         · have hgo : ¬ Hw g (E0 e) (Aj e) = true := by
            rw [hid] at hin; unfold Hw; simp [hin]
           rw [if_neg hgo] at hB;simp (disch := omega) only [hin, go_sem];refine Ad (j + 1) _ _ rfl (by omega) (by omega) ?_ ?_
           · simp (disch := omega) only [go_sem]
           · simp (disch := omega) only [hB, go_sem]
     · obtain rfl : j = l.length := by omega
       have htk : l.take l.length = l := List.take_length;simp (disch := omega) only [Ej, List.length_map, htk, Fg, go_sem];refine Aa (Aa5 (l := C3 l (l.take k)) (Db l e) rfl rfl (by omega)) ?_;simp (disch := omega) only [go_sem];refine ⟨k + 1, by omega, by omega, Ed 40 rfl (Es 99 40 (by decide) rfl (Ak ?_ ?_))⟩
       · simp (disch := omega) only [go_sem]
       · simp (disch := omega) only [hsn, go_sem]
   · have hoi : E0 e = Az e := if_pos h7;have n1 : ¬ e.kind = 1 := by omega
     have n2 : ¬ e.kind = 2 := by omega
     simp (disch := omega) only [Yo, List.length_map, he, Bj, hel, Ag, n1, n2, h7, Aw, Dk, Dn, A7, go_sem];refine A1 Af (Ej f l k e) (fun j => j ≤ l.length) (fun j => l.length - j) 0 (by simp) (Ak ?_ ?_) fun j hj => ?_
     · simp (disch := omega) only [go_sem]
     · simp (disch := omega) only [Db, byG, List.take_zero, List.foldl_nil, hoi, go_sem];exact Hh rfl (Du _)
     by_cases hjl : j < l.length
     · have hx2 : l[j]? = some l[j] := List.getElem?_eq_getElem hjl;have he2 : (l.map Be)[j]? = some (Be l[j]) := by rw [List.getElem?_map, hx2]; rfl
       have ht2 := Dc hx2;have hevj := hev _ (List.getElem_mem hjl);generalize l[j] = g at *;have hB : Db (l.take (j + 1)) e = if Hw g (E0 e) (Aj e) = true then { Db (l.take j) e with gone := A8 (Db (l.take j) e).gone g.rep g.seq } else Db (l.take j) e := by
        unfold Db; rw [ht2, Rs]; split <;> rfl
       have hob : (Db (l.take j) e).obj = E0 e := rfl;have hid : (Db (l.take j) e).id = Aj e := rfl;generalize hX : Db (l.take j) e = X at *;by_cases hg : g.kind = 6 ∨ g.kind = 7;rotate_left
       · have g6 : ¬ g.kind = 6 := fun q => hg (.inl q);have g7 : ¬ g.kind = 7 := fun q => hg (.inr q);have hgo : ¬ Hw g (E0 e) (Aj e) = true := by unfold Hw; simp [hg]
         rw [if_neg hgo] at hB;simp (disch := omega) only [Ej, hX, List.length_map, he2, Ag, g6, g7, go_sem];refine Ad (j + 1) _ _ rfl (by omega) (by omega) ?_ ?_
         · simp (disch := omega) only [go_sem]
         · simp (disch := omega) only [hB, go_sem]
       have hg' := hg;rcases hg with hg6 | hg7
       · skip
         by_cases ho : Az g = X.obj;rotate_left
         · have hp := Fu ho;have hgo : ¬ Hw g (E0 e) (Aj e) = true := by
            rw [hob] at ho; unfold Hw; simp [ho]
           rw [if_neg hgo] at hB;simp (disch := omega) only [Ej, hX, List.length_map, he2, Ag, hg6, A7, C8, Ae, Bp, hp, go_sem];refine Ad (j + 1) _ _ rfl (by omega) (by omega) ?_ ?_
           · simp (disch := omega) only [go_sem]
           · simp (disch := omega) only [hB, go_sem]
         have hp := Ft ho;have hpv : g.gone.pv = .sl g.gone.f g.gone.z (g.gone.l.map Eb) := rfl;simp (disch := omega) only [Ej, hX, List.length_map, he2, Ag, hg6, A7, C8, Ae, Bp, hp, Ge, Dl, go_sem];refine Aa (Pt g.gone X.id hevj.1 hevj.2.2.1) ?_;by_cases hin : X.id ∈ g.gone.l
         · have hgo : Hw g (E0 e) (Aj e) = true := by
            rw [hob] at ho; rw [hid] at hin; unfold Hw; simp [hg', ho, hin]
           rw [if_pos hgo] at hB;have hsp := G4 X (A8 X.gone g.rep g.seq);have hvl := Bk (A8 X.gone g.rep g.seq);simp (disch := omega) only [hin, Im, List.length_map, he2, Aw, go_sem];refine Aa (Fa _ _ _) ?_;simp (disch := omega) only [hsp, hvl, go_sem];refine Ad (j + 1) _ _ rfl (by omega) (by omega) ?_ ?_
           · simp (disch := omega) only [go_sem]
           · simp (disch := omega) only [hB, go_sem]
         · have hgo : ¬ Hw g (E0 e) (Aj e) = true := by
            rw [hid] at hin; unfold Hw; simp [hin]
           rw [if_neg hgo] at hB;simp (disch := omega) only [hin, go_sem];refine Ad (j + 1) _ _ rfl (by omega) (by omega) ?_ ?_
           · simp (disch := omega) only [go_sem]
           · simp (disch := omega) only [hB, go_sem]
       · have g6 : ¬ g.kind = 6 := by omega
         by_cases ho : Az g = X.obj;rotate_left
         · have hp := Fu ho;have hgo : ¬ Hw g (E0 e) (Aj e) = true := by
            rw [hob] at ho; unfold Hw; simp [ho]
           rw [if_neg hgo] at hB;simp (disch := omega) only [Ej, hX, List.length_map, he2, Ag, g6, hg7, A7, C8, Ae, Bp, hp, go_sem];refine Ad (j + 1) _ _ rfl (by omega) (by omega) ?_ ?_
           · simp (disch := omega) only [go_sem]
           · simp (disch := omega) only [hB, go_sem]
         have hp := Ft ho;have hpv : g.gone.pv = .sl g.gone.f g.gone.z (g.gone.l.map Eb) := rfl;simp (disch := omega) only [Ej, hX, List.length_map, he2, Ag, g6, hg7, A7, C8, Ae, Bp, hp, Ge, Dl, go_sem];refine Aa (Pt g.gone X.id hevj.1 hevj.2.2.1) ?_;by_cases hin : X.id ∈ g.gone.l
         · have hgo : Hw g (E0 e) (Aj e) = true := by
            rw [hob] at ho; rw [hid] at hin; unfold Hw; simp [hg', ho, hin]
           rw [if_pos hgo] at hB;have hsp := G4 X (A8 X.gone g.rep g.seq);have hvl := Bk (A8 X.gone g.rep g.seq);simp (disch := omega) only [hin, Im, List.length_map, he2, Aw, go_sem];refine Aa (Fa _ _ _) ?_;simp (disch := omega) only [hsp, hvl, go_sem];refine Ad (j + 1) _ _ rfl (by omega) (by omega) ?_ ?_
           · simp (disch := omega) only [go_sem]
           · simp (disch := omega) only [hB, go_sem]
         · have hgo : ¬ Hw g (E0 e) (Aj e) = true := by
            rw [hid] at hin; unfold Hw; simp [hin]
           rw [if_neg hgo] at hB;simp (disch := omega) only [hin, go_sem];refine Ad (j + 1) _ _ rfl (by omega) (by omega) ?_ ?_
           · simp (disch := omega) only [go_sem]
           · simp (disch := omega) only [hB, go_sem]
     · obtain rfl : j = l.length := by omega
       have htk : l.take l.length = l := List.take_length;simp (disch := omega) only [Ej, List.length_map, htk, Fg, go_sem];refine Aa (Aa5 (l := C3 l (l.take k)) (Db l e) rfl rfl (by omega)) ?_;simp (disch := omega) only [go_sem];refine ⟨k + 1, by omega, by omega, Ed 40 rfl (Es 99 40 (by decide) rfl (Ak ?_ ?_))⟩
       · simp (disch := omega) only [go_sem]
       · simp (disch := omega) only [hsn, go_sem]
 · obtain rfl : k = l.length := by omega
   have htk : l.take l.length = l := List.take_length;simp (disch := omega) only [Yo, List.length_map, htk, go_sem]
theorem A19 {x y : SV} {f g : Bool} {l : List Ver} {bs : List Bo} {v : Ver} {h d} (hx : Cm h [x, y, .vec 11 (Bb v)] = [.pv (.sl f 11 (l.map Bb)), .pv (.sl g 2 (bs.map Eb)), .vec 11 (Bb v)]) (hl : Bc [x, y, .vec 11 (Bb v)] = true)
 (hs : Cv l) (hn : l.length ≤ 900) (hbn : bs.length ≤ 900) (hm : ¬ Dj l bs) (ho : Br l v.rep v.seq = none) :
 FunOk Tryz.prog 134 [x, y, .vec 11 (Bb v)] h d (.tup [.os d, .pv (.i .i64 0)]) [.new d (.row 11 ((Fp l bs v).map Bb))] := by
 refine Asc Af fn134 (by simp) hl (.inr (Yl _)) rfl fun F => ?_;rw [hx];exact Auf hs hn hbn (fun h => absurd h hm) (fun _ h => by rw [ho] at h; cases h) (fun _ _ g n hg => ⟨n, rfl, hg⟩)
def Ph (e : Evt) : Bool := decide (e.kind = 3 ∨ e.kind = 4 ∨ e.kind = 5)
def Zi (g : Evt) (obj id : Bo) : Bool := Ph g && (decide (Az g = obj) && decide (id ∈ g.base.l))
def gvG (l : List Evt) (obj id : Bo) : Vc := l.foldl (fun a g => if Zi g obj id = true then A8 a g.rep g.seq else a) fun _ => 0
theorem Aen (l : List Evt) (g : Evt) (obj id : Bo) : gvG (l ++ [g]) obj id = if Zi g obj id = true then A8 (gvG l obj id) g.rep g.seq else gvG l obj id := by simp [gvG]
noncomputable def Gx (l m : List Evt) (e : Evt) : Ver := ⟨e.rep, e.seq, Df l l.length (Aj e), gvG m (Az e) (Aj e)⟩
noncomputable def C0 (l : List Evt) (obj : Bo) (m : List Evt) : List Ver := m.foldl (fun out e => if Ph e = true ∧ Az e = obj then Fp out [] (Gx l l e) else out) []
theorem Pk (l : List Evt) (obj : Bo) (m : List Evt) (e : Evt) : C0 l obj (m ++ [e]) = if Ph e = true ∧ Az e = obj then Fp (C0 l obj m) [] (Gx l l e) else C0 l obj m := by simp [C0]
theorem Alg {l : List Ver} {v x : Ver} : x ∈ Fp l [] v ↔ x = v ∨ x ∈ l := by
 unfold Fp; rw [Og];simp only [List.mem_append, List.mem_cons];have : x ∈ l ↔ x ∈ l.take (P9 l v.rep v.seq 0).1 ∨ x ∈ l.drop (P9 l v.rep v.seq 0).1 := by
  rw [← List.mem_append, List.take_append_drop]
 rw [this];constructor
 · rintro (h | h | h)
   · exact .inr (.inl h)
   · exact .inl h
   · exact .inr (.inr h)
 · rintro (h | h | h)
   · exact .inr (.inl h)
   · exact .inl h
   · exact .inr (.inr h)
theorem Anp (l : List Ver) (v : Ver) : (Fp l [] v).length = l.length + 1 := by
 unfold Fp; rw [Og];simp only [List.length_append, List.length_take, List.length_cons, List.length_drop]; omega
theorem Aca {l : List Ver} {v : Ver} (hs : Cv l) (hn : Br l v.rep v.seq = none) : Cv (Fp l [] v) := by
 unfold Fp; rw [Og];have hfalse : P9 l v.rep v.seq 0 = ((P9 l v.rep v.seq 0).1, false) := by
  rcases h : P9 l v.rep v.seq 0 with ⟨i, b⟩
  cases b with
  | false => rfl
  | true =>
    obtain ⟨_, u, _, _, h4⟩ := Iu h;rw [hn] at h4; cases h4
 obtain ⟨_, _, _, _, h5, h6⟩ := H7 hs hfalse;generalize (P9 l v.rep v.seq 0).1 = p at *;simp only [Nat.sub_zero] at h5 h6;refine List.pairwise_append.2 ⟨hs.sublist (List.take_sublist _ _), List.pairwise_cons.2 ⟨fun u hu => h6 u hu, hs.sublist (List.drop_sublist _ _)⟩, fun a ha b hb => ?_⟩;rcases List.mem_cons.1 hb with rfl | hb
 · exact h5 a ha
 · have := h5 a ha;exact P0 this (h6 b hb)
theorem N3 {l : List Evt} {obj : Bo} {v : Ver} : ∀ (n : Nat) (m : List Evt), m.length = n → (v ∈ C0 l obj m ↔ ∃ e ∈ m, (Ph e = true ∧ Az e = obj) ∧ v = Gx l l e)
 | 0, m, h => by obtain rfl := List.eq_nil_of_length_eq_zero h; simp [C0]
 | n + 1, m, h => by
   have hne : m ≠ [] := fun e => by subst e; simp at h
   have e1 := (List.dropLast_concat_getLast hne).symm;have ih := N3 (l := l) (obj := obj) (v := v) n m.dropLast (by simp [h]);rw [e1, Pk];generalize m.getLast hne = e at *;generalize m.dropLast = m' at *;split
   · rename_i hc;rw [Alg, ih];constructor
     · rintro (rfl | ⟨f, h1, h2⟩)
       · exact ⟨e, by simp, hc, rfl⟩
       · exact ⟨f, by simp [h1], h2⟩
     · rintro ⟨f, h1, h2, h3⟩;rcases List.mem_append.1 h1 with h1 | h1
       · exact .inr ⟨f, h1, h2, h3⟩
       · rw [List.mem_singleton] at h1; subst h1; exact .inl h3
   · rename_i hc;rw [ih];constructor
     · rintro ⟨f, h1, h2⟩; exact ⟨f, by simp [h1], h2⟩
     · rintro ⟨f, h1, h2, h3⟩;rcases List.mem_append.1 h1 with h1 | h1
       · exact ⟨f, h1, h2, h3⟩
       · rw [List.mem_singleton] at h1; subst h1; exact absurd h2 hc
def NodE (l : List Evt) : Prop := (l.map Aj).Nodup
theorem Yk {l m : List Evt} {obj : Bo} {e : Evt} (hn : NodE (m ++ [e])) : Br (C0 l obj m) e.rep e.seq = none := by
 rw [P1];intro v hv ⟨h1, h2⟩;obtain ⟨f, hf, _, rfl⟩ := (N3 m.length m rfl).1 hv;have : Aj f = Aj e := Prod.ext h1 h2;unfold NodE at hn;rw [List.map_append, List.nodup_append] at hn;exact hn.2.2 (Aj f) (List.mem_map_of_mem hf) (Aj e) (by simp) this
theorem NodE.take {l : List Evt} (h : NodE l) (k : Nat) : NodE (l.take k) := by
 unfold NodE at *; rw [List.map_take]; exact h.sublist (List.take_sublist _ _)
theorem I7 {l : List Evt} {obj : Bo} : ∀ (n : Nat) (m : List Evt), m.length = n → NodE m → Cv (C0 l obj m) ∧ (C0 l obj m).length ≤ n
 | 0, m, h, _ => by obtain rfl := List.eq_nil_of_length_eq_zero h; exact ⟨List.Pairwise.nil, by simp [C0]⟩
 | n + 1, m, h, hn => by
   have hne : m ≠ [] := fun e => by subst e; simp at h
   have e1 := (List.dropLast_concat_getLast hne).symm;have hn' : NodE m.dropLast := by unfold NodE at *; rw [List.map_dropLast]; exact hn.sublist (List.dropLast_sublist _)
   obtain ⟨h1, h2⟩ := I7 (l := l) (obj := obj) n m.dropLast (by simp [h]) hn';rw [e1] at hn ⊢;rw [Pk];split
   · exact ⟨Aca h1 (Yk hn), by rw [Anp]; omega⟩
   · exact ⟨h1, by omega⟩
theorem Awg {l : List Ver} {v : Ver} (hs : Cv l) (hn : l.length ≤ 900) (ho : Br l v.rep v.seq = none) {h d} (hh : h 40 = some (.row 11 (l.map Bb))) :
 FunOk Tryz.prog 134 [.os 40, .pv (.sl true 0 []), .vec 11 (Bb v)] h d (.tup [.os d, .pv (.i .i64 0)]) [.new d (.row 11 ((Fp l [] v).map Bb))] := by
 refine FunOk.imp (args' := [.os 40, .pv (.sl true 2 []), .vec 11 (Bb v)]) ?_ ⟨Imp.refl _, W8 (Ia id (.inl rfl) (.refl _)), Imp.refl _, trivial⟩ (by simp [A3, tn]);exact A19 (f := false) (g := true) (l := l) (bs := []) (by simp only [Cm, K9, hh]; rfl) rfl hs hn (by simp) (fun ⟨b, hb, _⟩ => by simp at hb) ho
structure EvsOk (l : List Evt) (rk : Evt → Nat) : Prop where
 len : l.length ≤ 400
 nod : NodE l
 ev : ∀ e ∈ l, ev e ∧ e.data.length ≤ 1000
 grd : Grd l rk
 rk : ∀ e ∈ l, rk e < l.length
noncomputable def Aoh (f : Bool) (l : List Evt) (o : Bo) (k : Nat) : FS := mk [(6, .pv (.i .i64 k)), (5, .os 40), (0, .pv (.sl f 21 (l.map Be))), (3, .p 3 0)] [(3, some (.var (.vec 2 [.i .i64 o.1, .i .u32 o.2]))), (40, some (.row 11 ((C0 l o (l.take k)).map Bb)))]
noncomputable def Acx (f : Bool) (l : List Evt) (o : Bo) (k : Nat) (e : Evt) (j : Nat) : FS := mk [(8, .pv (.i .i64 j)), (6, .pv (.i .i64 k)), (5, .os 40), (7, .p 7 0), (0, .pv (.sl f 21 (l.map Be))), (3, .p 3 0)] [(7, some (.var (.vec 11 (Bb (Gx l (l.take j) e))))), (3, some (.var (.vec 2 [.i .i64 o.1, .i .u32 o.2]))), (40, some (.row 11 ((C0 l o (l.take k)).map Bb)))]
theorem An5 (r : Int) (q : Nat) (s : List UInt8) (g : Vc) : Imp (.agg [.vec 2 [.i .i64 r, .i .u32 q], .pv (.s s), .vec 8 (vE g)]) (.vec 11 (Bb ⟨r, q, s, g⟩)) := Hh (by rfl) (Hc _)
set_option maxHeartbeats 8000000 in
theorem Wl {x : SV} {f : Bool} {l : List Evt} {rk : Evt → Nat} (o : Bo) {h d} (hx : Cm h [x, .vec 2 [.i .i64 o.1, .i .u32 o.2]] = [.pv (.sl f 21 (l.map Be)), .vec 2 [.i .i64 o.1, .i .u32 o.2]]) (hl : Bc [x, .vec 2 [.i .i64 o.1, .i .u32 o.2]] = true) (hE : EvsOk l rk) : FunOk Tryz.prog 101 [x, .vec 2 [.i .i64 o.1, .i .u32 o.2]] h d (.pv (.sl false 11 ((C0 l o l).map Bb))) [] := by
 refine Zl Af fn101 (by simp) hl (Yl _) fun F => ?_;rw [hx];have hn := hE.len;simp (disch := omega) only [ir101, go_sem];refine A1 Af (Aoh f l o) (fun k => k ≤ l.length) (fun k => l.length - k) 0 (by simp) (R2 5 40 11 rfl (by omega) (Ak ?_ ?_)) fun k hk => ?_
 · simp (disch := omega) only [go_sem]
 · simp (disch := omega) only [C0, List.take_zero, List.foldl_nil, List.map_nil, go_sem]
 by_cases hlt : k < l.length
 · have hx : l[k]? = some l[k] := List.getElem?_eq_getElem hlt;have he : (l.map Be)[k]? = some (Be l[k]) := by rw [List.getElem?_map, hx]; rfl
   have ht := Dc hx;have hsn := Pk l o (l.take k) l[k];have hnd := hE.nod.take (k + 1);rw [ht] at hnd;rw [← ht] at hsn;have hmem := List.getElem_mem hlt;generalize l[k] = e at *;obtain ⟨hso, hle⟩ := I7 (l := l) (obj := o) _ (l.take k) rfl (hE.nod.take k);have hle' : (l.take k).length ≤ 400 := by simp; omega
   have hnew := Yk (l := l) (obj := o) hnd;have hwb : Ph e = decide (e.kind = 3 ∨ e.kind = 4 ∨ e.kind = 5) := rfl;by_cases hw : Ph e = true;rotate_left
   · rw [if_neg (fun q => hw q.1)] at hsn;have hw' : Ph e = false := by simpa using hw
     simp (disch := omega) only [Aoh, List.length_map, he, Bj, go_sem];refine Aa (K5 e) ?_;rw [← hwb, hw'];simp (disch := omega) only [go_sem];refine Ad (k + 1) _ _ rfl (by omega) (by omega) ?_ ?_
     · simp (disch := omega) only [go_sem]
     · simp (disch := omega) only [hsn, go_sem]
   by_cases ho : Az e = o;rotate_left
   · rw [if_neg (fun q => ho q.2)] at hsn;have hp := Fu ho;simp (disch := omega) only [Aoh, List.length_map, he, Bj, go_sem];refine Aa (K5 e) ?_;rw [← hwb, hw];simp (disch := omega) only [he, A7, Ae, Bp, hp, List.length_map, go_sem];refine Ad (k + 1) _ _ rfl (by omega) (by omega) ?_ ?_
     · simp (disch := omega) only [go_sem]
     · simp (disch := omega) only [hsn, go_sem]
   rw [if_pos ⟨hw, ho⟩] at hsn;have hp := Ft ho;simp (disch := omega) only [Aoh, List.length_map, he, Bj, go_sem];refine Aa (K5 e) ?_;rw [← hwb, hw];simp (disch := omega) only [he, A7, Ae, Bp, hp, List.length_map, Aw, go_sem];refine Aa (Adw (rk := rk) hE.grd (by omega) hE.ev l.length (Aj e) (fun e' he' => hE.rk e' (List.mem_of_find?_eq_some he')) _ f _ _ rfl rfl) ?_;simp (disch := omega) only [go_sem];refine A1 Af (Acx f l o k e) (fun j => j ≤ l.length) (fun j => l.length - j) 0 (by simp) (Ak ?_ ?_) fun j hj => ?_
   · simp (disch := omega) only [go_sem]
   · simp (disch := omega) only [Gx, gvG, List.take_zero, List.foldl_nil, go_sem];exact An5 _ _ _ _
   by_cases hjl : j < l.length
   · have hx2 : l[j]? = some l[j] := List.getElem?_eq_getElem hjl;have he2 : (l.map Be)[j]? = some (Be l[j]) := by rw [List.getElem?_map, hx2]; rfl
     have ht2 := Dc hx2;have hevj := (hE.ev _ (List.getElem_mem hjl)).1;generalize l[j] = g at *;have hB : Gx l (l.take (j + 1)) e = if Zi g (Az e) (Aj e) = true then { Gx l (l.take j) e with gone := A8 (Gx l (l.take j) e).gone g.rep g.seq } else Gx l (l.take j) e := by
      unfold Gx; rw [ht2, Aen]; split <;> rfl
     have hid : ((Gx l (l.take j) e).rep, (Gx l (l.take j) e).seq) = Aj e := rfl;generalize hX : Gx l (l.take j) e = X at *;have hwg : Ph g = decide (g.kind = 3 ∨ g.kind = 4 ∨ g.kind = 5) := rfl;by_cases hg : Ph g = true;rotate_left
     · have hgo : ¬ Zi g (Az e) (Aj e) = true := by unfold Zi; simp [hg]
       have hg' : Ph g = false := by simpa using hg
       rw [if_neg hgo] at hB;simp (disch := omega) only [Acx, hX, List.length_map, he2, Bj, go_sem];refine Aa (K5 g) ?_;rw [← hwg, hg'];simp (disch := omega) only [go_sem];refine Ad (j + 1) _ _ rfl (by omega) (by omega) ?_ ?_
       · simp (disch := omega) only [go_sem]
       · simp (disch := omega) only [hB, go_sem]
     by_cases hog : Az g = o;rotate_left
     · have hp2 := Fu hog;have hgo : ¬ Zi g (Az e) (Aj e) = true := by rw [← ho] at hog; unfold Zi; simp [hog]
       rw [if_neg hgo] at hB;simp (disch := omega) only [Acx, hX, List.length_map, he2, Bj, go_sem];refine Aa (K5 g) ?_;rw [← hwg, hg];simp (disch := omega) only [List.length_map, he2, A7, Ae, Bp, hp2, go_sem];refine Ad (j + 1) _ _ rfl (by omega) (by omega) ?_ ?_
       · simp (disch := omega) only [go_sem]
       · simp (disch := omega) only [hB, go_sem]
     have hp2 := Ft hog;have hpv : g.base.pv = .sl g.base.f g.base.z (g.base.l.map Eb) := rfl;simp (disch := omega) only [Acx, hX, List.length_map, he2, Bj, go_sem];refine Aa (K5 g) ?_;rw [← hwg, hg];simp (disch := omega) only [List.length_map, he2, A7, Ae, Bp, hp2, Fl, C2, go_sem];refine Aa (Pt g.base (X.rep, X.seq) hevj.2.1 hevj.2.2.2.1) ?_;by_cases hin : (X.rep, X.seq) ∈ g.base.l
     · have hgo : Zi g (Az e) (Aj e) = true := by
        rw [hid] at hin; unfold Zi; simp [hg, hog, ho, hin]
       rw [if_pos hgo] at hB;have hsp := Jn X (A8 X.gone g.rep g.seq);have hvl := Bk (A8 X.gone g.rep g.seq);simp (disch := omega) only [hin, Nh, List.length_map, he2, Aw, go_sem];refine Aa (Fa _ _ _) ?_;simp (disch := omega) only [hsp, hvl, go_sem];refine Ad (j + 1) _ _ rfl (by omega) (by omega) ?_ ?_
       · simp (disch := omega) only [go_sem]
       · simp (disch := omega) only [hB, go_sem]
     · have hgo : ¬ Zi g (Az e) (Aj e) = true := by
        rw [hid] at hin; unfold Zi; simp [hin]
       rw [if_neg hgo] at hB;simp (disch := omega) only [hin, go_sem];refine Ad (j + 1) _ _ rfl (by omega) (by omega) ?_ ?_
       · simp (disch := omega) only [go_sem]
       · simp (disch := omega) only [hB, go_sem]
   · obtain rfl : j = l.length := by omega
     have htk : l.take l.length = l := List.take_length;simp (disch := omega) only [Acx, List.length_map, htk, Kt, go_sem];refine Aa (Awg (l := C0 l o (l.take k)) (v := Gx l l e) hso (by omega) hnew rfl) ?_;simp (disch := omega) only [go_sem];refine ⟨k + 1, by omega, by omega, Ed 40 rfl (Es 85 40 (by decide) rfl (Ak ?_ ?_))⟩
     · simp (disch := omega) only [go_sem]
     · simp (disch := omega) only [hsn, go_sem]
 · obtain rfl : k = l.length := by omega
   have htk : l.take l.length = l := List.take_length;simp (disch := omega) only [Aoh, List.length_map, htk, go_sem]
mutual
theorem Ada {π : Nat → Nat} : ∀ {x : SV}, x.closed = true → x.rn π = x
 | .pv _, _ => rfl
 | .vec _ _, _ => rfl
 | .pi _ _ _ _, _ => rfl
 | .dead, _ => rfl
 | .agg l, h => by simp only [SV.closed] at h; simp only [SV.rn, Si h]
 | .tup l, h => by simp only [SV.closed] at h; simp only [SV.rn, Si h]
 | .fn f l, h => by simp only [SV.closed] at h; simp only [SV.rn, Si h]
 | .p _ _, h => by simp [SV.closed] at h
 | .ps _ _, h => by simp [SV.closed] at h
 | .pr _ _ _ _, h => by simp [SV.closed] at h
 | .os _, h => by simp [SV.closed] at h
 | .ov _ _ _ _, h => by simp [SV.closed] at h
theorem Si {π : Nat → Nat} : ∀ {l : List SV}, SV.closedL l = true → SV.rnL π l = l
 | [], _ => rfl
 | x :: l, h => by
   simp only [SV.closedL, Bool.and_eq_true] at h;simp only [SV.rnL, Ada h.1, Si h.2]
end
mutual
theorem A5k : ∀ {x : SV}, x.closed = true → tn x = []
 | .pv _, _ => rfl
 | .vec _ _, _ => rfl
 | .pi _ _ _ _, _ => rfl
 | .dead, _ => rfl
 | .agg l, h => by simp only [SV.closed] at h; simp only [tn, N7 h]
 | .tup l, h => by simp only [SV.closed] at h; simp only [tn, N7 h]
 | .fn f l, h => by simp only [SV.closed] at h; simp only [tn, N7 h]
 | .p _ _, h => by simp [SV.closed] at h
 | .ps _ _, h => by simp [SV.closed] at h
 | .pr _ _ _ _, h => by simp [SV.closed] at h
 | .os _, h => by simp [SV.closed] at h
 | .ov _ _ _ _, h => by simp [SV.closed] at h
theorem N7 : ∀ {l : List SV}, SV.closedL l = true → A3 l = []
 | [], _ => rfl
 | x :: l, h => by
   simp only [SV.closedL, Bool.and_eq_true] at h;simp only [A3, A5k h.1, N7 h.2, List.append_nil]
end
theorem Aie (a m : Nat) : sw1 a m a = m := if_pos rfl
theorem FunOk.io {P : Program} {f : Nat} {a : List SV} {c c' x : SV} (hf : ∀ h d, h 900 = some (.var c) → FunOk P f (.p 900 0 :: a) h d x [.upd 900 (.var c')]) (ha : SV.closedL a = true) (hx : x.closed = true) (hc : c.closed = true) (hc' : c'.closed = true) {g : Nat} {h : Nat → Option Blk} {d : Nat} (hg : h g = some (.var c)) :
 FunOk P f (.p g 0 :: a) h d x [.upd g (.var c')] := by
 have h1 := (hf (fun k => h (sw1 900 g k)) d (by show h (sw1 900 g 900) = _; rw [Aie]; exact hg)).rn (π := sw1 900 g) (Um 900 g) (d' := d);simp only [SV.rnL, SV.rn, HU.rn, Blk.rn, List.map_cons, List.map_nil, Aie, Si ha, Ada hx, Ada hc'] at h1;refine h1.at fun n hn => ?_;simp only [A3, tn, N7 ha, List.append_nil, List.mem_singleton] at hn;subst hn;simp only [Um, hg, Option.map_some, Blk.rn, Ada hc]
theorem FunOk.quiet {P : Program} {f : Nat} {args : List SV} {h : Nat → Option Blk} {d g : Nat} {x : SV} {blk : Blk} (hf : FunOk P f args h d x [.upd g blk]) (hg : h g = some blk) (hin : g ∈ A3 args) : FunOk P f args h d x [] :=
 ⟨hf.1, fun F N ρ s a w hR hh vs hc => by
  have hs : s.h g = some blk := (hh g hin).trans hg;have e : s.hup [.upd g blk] = s := FS.ext' (fun _ => rfl) fun n => by
   simp only [FS.hup, FS.seth];split
   · rename_i e; rw [e]; exact hs.symm
   · rfl
  have := hf.2 F N ρ s a w hR hh vs hc;rw [e] at this;exact this⟩
theorem FunOk.ioRow {P : Program} {f : Nat} {a : List SV} {sz : Nat} {es : List (List PV)} {x : SV} (hf : ∀ h d, h 900 = some (.row sz es) → FunOk P f (.os 900 :: a) h d x [.upd 900 (.row sz es)]) (ha : SV.closedL a = true) (hx : x.closed = true) {g : Nat} {h : Nat → Option Blk} {d : Nat} (hg : h g = some (.row sz es)) :
 FunOk P f (.os g :: a) h d x [] := by
 have h1 := (hf (fun k => h (sw1 900 g k)) d (by show h (sw1 900 g 900) = _; rw [Aie]; exact hg)).rn (π := sw1 900 g) (Um 900 g) (d' := d);simp only [SV.rnL, SV.rn, HU.rn, Blk.rn, List.map_cons, List.map_nil, Aie, Si ha, Ada hx] at h1;refine FunOk.quiet (g := g) (blk := .row sz es) (h1.at fun n hn => ?_) hg (by simp [A3, tn]);simp only [A3, tn, N7 ha, List.append_nil, List.mem_singleton] at hn;subst hn;simp only [Um, hg, Option.map_some, Blk.rn]
def D6 (e : Evt) (o : Obj) (f : Evt) : Obj :=
 if Az f = Aj e then
  if f.kind = 7 then (if Cp o.last.1 o.last.2 f.rep f.seq = true then { o with last := Aj f, name := f.name } else o)
  else if f.kind = 6 then { o with seen := C1 o.seen (A8 f.dep f.rep f.seq) } else o
 else o
noncomputable def C9 (l m : List Evt) (e : Evt) : Obj := m.foldl (D6 e) ⟨Aj e, decide (e.kind = 2), Aj e, e.name, fun _ => 0, C0 l (Aj e) l⟩
theorem Jj (l m : List Evt) (e f : Evt) : C9 l (m ++ [f]) e = D6 e (C9 l m e) f := by simp [C9]
def Gj : SV := .agg [.pv (.i .i64 0), .pv (.i .u32 0), .pv (.b false), .pv (.i .i64 0), .pv (.i .u32 0), .pv (.s []), .vec 8 (vE fun _ => 0), .pv (.sl true 0 [])]
theorem Ai4 (o : Obj) : Imp (.agg [.vec 2 [.i .i64 o.id.1, .i .u32 o.id.2], .pv (.b o.dir), .vec 2 [.i .i64 o.last.1, .i .u32 o.last.2], .pv (.s o.name), .vec 8 (vE o.seen), .pv (.sl false 11 (o.vers.map Bb))]) (.vec 15 (Ap o)) := Hh (by rfl) (Eu _)
noncomputable def Vw (f : Bool) (l : List Evt) (e : Evt) (k : Nat) : FS := mk [(6, .pv (.i .i64 k)), (0, .pv (.sl f 21 (l.map Be))), (3, .p 3 0), (4, .p 4 0), (5, .p 5 0)] [(3, some (.var (.vec 21 (Be e)))), (4, some (.var Gj)), (5, some (.var (.vec 15 (Ap (C9 l (l.take k) e)))))]
noncomputable def Vv (f : Bool) (l : List Evt) (e : Evt) (k : Nat) : FS := mk [(6, .pv (.i .i64 k)), (0, .os 900), (3, .p 3 0), (4, .p 4 0), (5, .p 5 0), (1000000, .os 900)] [(3, some (.var (.vec 21 (Be e)))), (4, some (.var Gj)), (5, some (.var (.vec 15 (Ap (C9 l (l.take k) e))))), (900, some (.row 21 (l.map Be)))]
set_option maxHeartbeats 8000000 in
theorem Y1 {f : Bool} {l : List Evt} {rk : Evt → Nat} (e : Evt) {h d} (hE : EvsOk l rk) : FunOk Tryz.prog 60 [.pv (.sl f 21 (l.map Be)), .vec 21 (Be e)] h d (.vec 15 (Ap (C9 l l e))) [] := by
 refine Aq Af fn60 (by simp) rfl rfl fun F => ?_;have hn := hE.len;simp (disch := omega) only [ir60, Aw, Ag, Dn, Blk.ptr, go_sem];refine Aa (Wl (rk := rk) (l := l) (Aj e) rfl rfl hE) ?_;simp (disch := omega) only [go_sem];refine A1 Af (Vw f l e) (fun k => k ≤ l.length) (fun k => l.length - k) 0 (by simp) (Ak ?_ ?_) fun k hk => ?_
 · simp (disch := omega) only [go_sem]
 · simp (disch := omega) only [C9, List.take_zero, List.foldl_nil, Gj, go_sem];exact Ai4 ⟨Aj e, decide (e.kind = 2), Aj e, e.name, fun _ => 0, C0 l (Aj e) l⟩
 by_cases hlt : k < l.length
 · have hx : l[k]? = some l[k] := List.getElem?_eq_getElem hlt;have he : (l.map Be)[k]? = some (Be l[k]) := by rw [List.getElem?_map, hx]; rfl
   have ht := Dc hx;have hsn := Jj l (l.take k) e l[k];rw [← ht] at hsn;generalize l[k] = g at *;generalize hX : C9 l (l.take k) e = X at *;by_cases ho : Az g = Aj e;rotate_left
   · have hp := Fu ho;have hs : D6 e X g = X := if_neg ho;rw [hs] at hsn;simp (disch := omega) only [Vw, hX, List.length_map, he, A7, Aw, Ae, Bp, hp, go_sem];refine Ad (k + 1) _ _ rfl (by omega) (by omega) ?_ ?_
     · simp (disch := omega) only [go_sem]
     · simp (disch := omega) only [hsn, Gj, go_sem]
   have hp := Ft ho;by_cases h7 : g.kind = 7
   · by_cases hl7 : Cp X.last.1 X.last.2 g.rep g.seq = true
     · have hs : D6 e X g = { X with last := Aj g, name := g.name } := by unfold D6; rw [if_pos ho, if_pos h7, if_pos hl7]
       rw [hs] at hsn;have hsp := V0 X (Aj g);have hsp2 := Vz { X with last := Aj g } g.name;simp (disch := omega) only [Vw, hX, List.length_map, he, A7, Aw, Ae, Bp, hp, Ag, h7, H0, go_sem];refine Aa (Gb X.last.1 X.last.2 g.rep g.seq) ?_;simp (disch := omega) only [hl7, go_sem];refine Nx ?_;simp (disch := omega) only [List.length_map, he, Aw, Dn, hsp, hsp2, Ag, h7, go_sem];refine Ad (k + 1) _ _ rfl (by omega) (by omega) ?_ ?_
       · simp (disch := omega) only [go_sem]
       · simp (disch := omega) only [hsn, Gj, go_sem]
     · have hs : D6 e X g = X := by unfold D6; rw [if_pos ho, if_pos h7, if_neg hl7]
       rw [hs] at hsn;have hl7' : Cp X.last.1 X.last.2 g.rep g.seq = false := by simpa using hl7
       simp (disch := omega) only [Vw, hX, List.length_map, he, A7, Aw, Ae, Bp, hp, Ag, h7, H0, go_sem];refine Aa (Gb X.last.1 X.last.2 g.rep g.seq) ?_;simp (disch := omega) only [hl7', List.length_map, he, Ag, h7, go_sem];refine Ad (k + 1) _ _ rfl (by omega) (by omega) ?_ ?_
       · simp (disch := omega) only [go_sem]
       · simp (disch := omega) only [hsn, Gj, go_sem]
   by_cases h6 : g.kind = 6
   · have hs : D6 e X g = { X with seen := C1 X.seen (A8 g.dep g.rep g.seq) } := by unfold D6; rw [if_pos ho, if_neg h7, if_pos h6]
     rw [hs] at hsn;have hsp := Vy X (C1 X.seen (A8 g.dep g.rep g.seq));have hvl := Bk (C1 X.seen (A8 g.dep g.rep g.seq));simp (disch := omega) only [Vw, hX, List.length_map, he, A7, Aw, Ae, Bp, hp, Ag, h7, h6, L3, Fd, go_sem];refine Aa (Fa _ _ _) ?_;simp (disch := omega) only [go_sem];refine Aa (Ut _ _) ?_;simp (disch := omega) only [hsp, hvl, go_sem];refine Ad (k + 1) _ _ rfl (by omega) (by omega) ?_ ?_
     · simp (disch := omega) only [go_sem]
     · simp (disch := omega) only [hsn, Gj, go_sem]
   · have hs : D6 e X g = X := by unfold D6; rw [if_pos ho, if_neg h7, if_neg h6]
     rw [hs] at hsn;simp (disch := omega) only [Vw, hX, List.length_map, he, A7, Aw, Ae, Bp, hp, Ag, h7, h6, go_sem];refine Ad (k + 1) _ _ rfl (by omega) (by omega) ?_ ?_
     · simp (disch := omega) only [go_sem]
     · simp (disch := omega) only [hsn, Gj, go_sem]
 obtain rfl : k = l.length := by omega
 have htk : l.take l.length = l := List.take_length;have hol := Eu (C9 l l e);simp (disch := omega) only [Vw, Gj, List.length_map, htk, Fz, hol, go_sem]
set_option maxHeartbeats 8000000 in
theorem Agc {l : List Evt} {rk : Evt → Nat} (e : Evt) {h d} (hE : EvsOk l rk) (hg : h 900 = some (.row 21 (l.map Be))) : FunOk Tryz.prog 60 [.os 900, .vec 21 (Be e)] h d (.vec 15 (Ap (C9 l l e))) [.upd 900 (.row 21 (l.map Be))] := by
 refine Gg (g := 900) Af fn60 (by simp) (by simp [A3, tn]) (by simp [A3, tn]) hg rfl (by simp [Blk.ptr, SV.kill]) rfl (fun _ => rfl) fun F => ?_;obtain ⟨f, hf⟩ : ∃ f : Bool, f = false := ⟨_, rfl⟩
 have hn := hE.len;simp (disch := omega) only [ir60, Aw, Ag, Dn, Blk.ptr, go_sem];refine Aa (Wl (rk := rk) (l := l) (Aj e) rfl rfl hE) ?_;simp (disch := omega) only [go_sem];refine A1 Af (Vv f l e) (fun k => k ≤ l.length) (fun k => l.length - k) 0 (by simp) (Ak ?_ ?_) fun k hk => ?_
 · simp (disch := omega) only [go_sem]
 · simp (disch := omega) only [C9, List.take_zero, List.foldl_nil, Gj, go_sem];exact Ai4 ⟨Aj e, decide (e.kind = 2), Aj e, e.name, fun _ => 0, C0 l (Aj e) l⟩
 by_cases hlt : k < l.length
 · have hx : l[k]? = some l[k] := List.getElem?_eq_getElem hlt;have he : (l.map Be)[k]? = some (Be l[k]) := by rw [List.getElem?_map, hx]; rfl
   have ht := Dc hx;have hsn := Jj l (l.take k) e l[k];rw [← ht] at hsn;generalize l[k] = g at *;generalize hX : C9 l (l.take k) e = X at *;by_cases ho : Az g = Aj e;rotate_left
   · have hp := Fu ho;have hs : D6 e X g = X := if_neg ho;rw [hs] at hsn;simp (disch := omega) only [Vv, hX, List.length_map, he, A7, Aw, Ae, Bp, hp, go_sem];refine Ad (k + 1) _ _ rfl (by omega) (by omega) ?_ ?_
     · simp (disch := omega) only [go_sem]
     · simp (disch := omega) only [hsn, Gj, go_sem]
   have hp := Ft ho;by_cases h7 : g.kind = 7
   · by_cases hl7 : Cp X.last.1 X.last.2 g.rep g.seq = true
     · have hs : D6 e X g = { X with last := Aj g, name := g.name } := by unfold D6; rw [if_pos ho, if_pos h7, if_pos hl7]
       rw [hs] at hsn;have hsp := V0 X (Aj g);have hsp2 := Vz { X with last := Aj g } g.name;simp (disch := omega) only [Vv, hX, List.length_map, he, A7, Aw, Ae, Bp, hp, Ag, h7, H0, go_sem];refine Aa (Gb X.last.1 X.last.2 g.rep g.seq) ?_;simp (disch := omega) only [hl7, go_sem];refine Nx ?_;simp (disch := omega) only [List.length_map, he, Aw, Dn, hsp, hsp2, Ag, h7, go_sem];refine Ad (k + 1) _ _ rfl (by omega) (by omega) ?_ ?_
       · simp (disch := omega) only [go_sem]
       · simp (disch := omega) only [hsn, Gj, go_sem]
     · have hs : D6 e X g = X := by unfold D6; rw [if_pos ho, if_pos h7, if_neg hl7]
       rw [hs] at hsn;have hl7' : Cp X.last.1 X.last.2 g.rep g.seq = false := by simpa using hl7
       simp (disch := omega) only [Vv, hX, List.length_map, he, A7, Aw, Ae, Bp, hp, Ag, h7, H0, go_sem];refine Aa (Gb X.last.1 X.last.2 g.rep g.seq) ?_;simp (disch := omega) only [hl7', List.length_map, he, Ag, h7, go_sem];refine Ad (k + 1) _ _ rfl (by omega) (by omega) ?_ ?_
       · simp (disch := omega) only [go_sem]
       · simp (disch := omega) only [hsn, Gj, go_sem]
   by_cases h6 : g.kind = 6
   · have hs : D6 e X g = { X with seen := C1 X.seen (A8 g.dep g.rep g.seq) } := by unfold D6; rw [if_pos ho, if_neg h7, if_pos h6]
     rw [hs] at hsn;have hsp := Vy X (C1 X.seen (A8 g.dep g.rep g.seq));have hvl := Bk (C1 X.seen (A8 g.dep g.rep g.seq));simp (disch := omega) only [Vv, hX, List.length_map, he, A7, Aw, Ae, Bp, hp, Ag, h7, h6, L3, Fd, go_sem];refine Aa (Fa _ _ _) ?_;simp (disch := omega) only [go_sem];refine Aa (Ut _ _) ?_;simp (disch := omega) only [hsp, hvl, go_sem];refine Ad (k + 1) _ _ rfl (by omega) (by omega) ?_ ?_
     · simp (disch := omega) only [go_sem]
     · simp (disch := omega) only [hsn, Gj, go_sem]
   · have hs : D6 e X g = X := by unfold D6; rw [if_pos ho, if_neg h7, if_neg h6]
     rw [hs] at hsn;simp (disch := omega) only [Vv, hX, List.length_map, he, A7, Aw, Ae, Bp, hp, Ag, h7, h6, go_sem];refine Ad (k + 1) _ _ rfl (by omega) (by omega) ?_ ?_
     · simp (disch := omega) only [go_sem]
     · simp (disch := omega) only [hsn, Gj, go_sem]
 obtain rfl : k = l.length := by omega
 have htk : l.take l.length = l := List.take_length;have hol := Eu (C9 l l e);simp (disch := omega) only [Vv, Gj, List.length_map, htk, Fz, hol, go_sem];refine Cg ?_;simp (disch := omega) only [go_sem]
theorem Y0 {l : List Evt} {rk : Evt → Nat} (e : Evt) {h d g} (hE : EvsOk l rk) (hg : h g = some (.row 21 (l.map Be))) : FunOk Tryz.prog 60 [.os g, .vec 21 (Be e)] h d (.vec 15 (Ap (C9 l l e))) [] :=
 FunOk.ioRow (fun h d hg => Agc e hE hg) rfl rfl hg
def Hs (l : List Obj) (o : Obj) : List Obj := l.take (Cc l o.id) ++ o :: l.drop (Cc l o.id)
noncomputable def D4 (l : List Evt) (p : St × Vc) (e : Evt) : St × Vc :=
 if e.kind = 1 ∨ e.kind = 2 then ({ p.1 with objs := Hs p.1.objs (C9 l l e) }, p.2)
 else if e.kind = 8 then (if Ht p.2 e.rep < e.seq then (Ii p.1 e, A8 p.2 e.rep e.seq) else p)
 else if e.kind = 9 then (Oy p.1 e, p.2)
 else p
noncomputable def F7 (l m : List Evt) : St × Vc := m.foldl (D4 l) (⟨Bh l, [], C3 l l, fun _ => 0, fun _ => false⟩, fun _ => 0)
noncomputable def Am (l : List Evt) : St := (F7 l l).1
theorem H6 (l m : List Evt) (e : Evt) : F7 l (m ++ [e]) = D4 l (F7 l m) e := by simp [F7]
theorem Ad1 {l : List Obj} {o x : Obj} : x ∈ Hs l o ↔ x = o ∨ x ∈ l := by
 unfold Hs;simp only [List.mem_append, List.mem_cons];have : x ∈ l ↔ x ∈ l.take (Cc l o.id) ∨ x ∈ l.drop (Cc l o.id) := by rw [← List.mem_append, List.take_append_drop]
 rw [this];constructor
 · rintro (h | h | h)
   · exact .inr (.inl h)
   · exact .inl h
   · exact .inr (.inr h)
 · rintro (h | h | h)
   · exact .inr (.inl h)
   · exact .inl h
   · exact .inr (.inr h)
theorem Aro (l : List Obj) (o : Obj) : (Hs l o).length = l.length + 1 := by
 unfold Hs;simp only [List.length_append, List.length_take, List.length_cons, List.length_drop];have := Lx l o.id; omega
theorem Awi (l : List Obj) (o : Obj) : (Hs l o).map obN = O2 (l.map obN) (obN o) := by
 unfold Hs O2 Cc;simp [List.map_take, List.map_drop]; rfl
theorem Yv {l : List Obj} {o : Obj} (hs : En l) (hn : ∀ x ∈ l, x.id ≠ o.id) : En (Hs l o) := by
 unfold En; rw [Awi];refine V2 hs (Gc.2 fun x hx => ?_);obtain ⟨u, hu, rfl⟩ := List.mem_map.1 hx;exact hn u hu
theorem Jb (l : List Evt) (e : Evt) : ∀ m : List Evt, (C9 l m e).id = Aj e := fun m => by
 unfold C9;generalize hq : (⟨Aj e, decide (e.kind = 2), Aj e, e.name, fun _ => 0, C0 l (Aj e) l⟩ : Obj) = o;have : o.id = Aj e := by rw [← hq]
 clear hq
 induction m generalizing o with
 | nil => exact this
 | cons f m ih =>
   simp only [List.foldl_cons];refine ih _ ?_;unfold D6;split
   · split
     · split <;> exact this
     · split <;> exact this
   · exact this
theorem Rt {l : List Evt} : ∀ (n : Nat) (m : List Evt), m.length = n → NodE m → En (F7 l m).1.objs ∧ (F7 l m).1.objs.length ≤ n ∧ ∀ o, o ∈ (F7 l m).1.objs ↔ ∃ e ∈ m, (e.kind = 1 ∨ e.kind = 2) ∧ o = C9 l l e
 | 0, m, h, _ => by obtain rfl := List.eq_nil_of_length_eq_zero h; exact ⟨List.Pairwise.nil, by simp [F7], by simp [F7]⟩
 | n + 1, m, h, hn => by
   have hne : m ≠ [] := fun e => by subst e; simp at h
   have e1 := (List.dropLast_concat_getLast hne).symm;have hn' : NodE m.dropLast := by unfold NodE at *; rw [List.map_dropLast]; exact hn.sublist (List.dropLast_sublist _)
   obtain ⟨h1, h2, h3⟩ := Rt (l := l) n m.dropLast (by simp [h]) hn';rw [e1] at hn ⊢;rw [H6];generalize m.getLast hne = e at *;generalize m.dropLast = m' at *;have grow : ∀ o : Obj, ((∃ f ∈ m' ++ [e], (f.kind = 1 ∨ f.kind = 2) ∧ o = C9 l l f) ↔ (∃ f ∈ m', (f.kind = 1 ∨ f.kind = 2) ∧ o = C9 l l f) ∨ ((e.kind = 1 ∨ e.kind = 2) ∧ o = C9 l l e)) := fun o => by
    simp only [List.mem_append, List.mem_singleton];constructor
    · rintro ⟨f, hf | rfl, h⟩
      · exact .inl ⟨f, hf, h⟩
      · exact .inr h
    · rintro (⟨f, hf, h⟩ | h)
      · exact ⟨f, .inl hf, h⟩
      · exact ⟨e, .inr rfl, h⟩
   by_cases h12 : e.kind = 1 ∨ e.kind = 2
   · have hS : (D4 l (F7 l m') e).1.objs = Hs (F7 l m').1.objs (C9 l l e) := by unfold D4; rw [if_pos h12]
     rw [hS];have hnew : ∀ x ∈ (F7 l m').1.objs, x.id ≠ (C9 l l e).id := fun x hx => by
      obtain ⟨f, hf, _, rfl⟩ := (h3 x).1 hx;rw [Jb, Jb];unfold NodE at hn;rw [List.map_append, List.nodup_append] at hn;exact hn.2.2 (Aj f) (List.mem_map_of_mem hf) (Aj e) (by simp)
     refine ⟨Yv h1 hnew, by rw [Aro]; omega, fun o => ?_⟩;rw [Ad1, h3, grow];constructor
     · rintro (h | h)
       · exact .inr ⟨h12, h⟩
       · exact .inl h
     · rintro (h | h)
       · exact .inr h
       · exact .inl h.2
   · have hS : (D4 l (F7 l m') e).1.objs = (F7 l m').1.objs := by
      unfold D4; rw [if_neg h12];split
      · split <;> rfl
      · split <;> rfl
     rw [hS];refine ⟨h1, by omega, fun o => ?_⟩;rw [h3, grow];exact ⟨.inl, fun h => h.resolve_right fun q => h12 q.1⟩
theorem Ae3 (l m : List Evt) : (F7 l m).1.ents = C3 l l ∧ (F7 l m).1.known = Bh l := by
 unfold F7;generalize hq : ((⟨Bh l, [], C3 l l, fun _ => 0, fun _ => false⟩ : St), (fun _ => 0 : Vc)) = p;have : p.1.ents = C3 l l ∧ p.1.known = Bh l := by rw [← hq]; exact ⟨rfl, rfl⟩
 clear hq
 induction m generalizing p with
 | nil => exact this
 | cons f m ih =>
   simp only [List.foldl_cons];refine ih _ ?_;unfold D4;split
   · exact this
   · split
     · split
       · exact this
       · exact this
     · split <;> exact this
noncomputable def Tq (f : Bool) (l : List Evt) (k : Nat) : FS := mk [(5, .pv (.i .i64 k)), (0, .pv (.sl f 21 (l.map Be))), (2, .p 2 0), (3, .p 3 0), (4, .p 4 0)] [(2, some (.var Cd)), (3, some (.var (.agg (Ba (F7 l (l.take k)).1)))), (4, some (.var (.vec 8 (vE (F7 l (l.take k)).2))))]
noncomputable def Tp (f : Bool) (l : List Evt) (k : Nat) : FS := mk [(5, .pv (.i .i64 k)), (0, .os 900), (2, .p 2 0), (3, .p 3 0), (4, .p 4 0), (1000000, .os 900)] [(2, some (.var Cd)), (3, some (.var (.agg (Ba (F7 l (l.take k)).1)))), (4, some (.var (.vec 8 (vE (F7 l (l.take k)).2)))), (900, some (.row 21 (l.map Be)))]
noncomputable def Yr (f : Bool) (l : List Evt) (k : Nat) (e : Evt) (S : St) (v : Vc) (o : Obj) (j : Nat) : FS := mk [(8, .pv (.i .i64 j)), (7, .p 7 0), (6, .p 6 0), (5, .pv (.i .i64 k)), (0, .pv (.sl f 21 (l.map Be))), (2, .p 2 0), (3, .p 3 0), (4, .p 4 0)] [(7, some (.var (.vec 15 (Ap o)))), (6, some (.var (.vec 21 (Be e)))), (2, some (.var Cd)), (3, some (.var (.agg (Ba S)))), (4, some (.var (.vec 8 (vE v))))]
noncomputable def Yq (f : Bool) (l : List Evt) (k : Nat) (e : Evt) (S : St) (v : Vc) (o : Obj) (j : Nat) : FS := mk [(8, .pv (.i .i64 j)), (7, .p 7 0), (6, .p 6 0), (5, .pv (.i .i64 k)), (0, .os 900), (2, .p 2 0), (3, .p 3 0), (4, .p 4 0), (1000000, .os 900)] [(7, some (.var (.vec 15 (Ap o)))), (6, some (.var (.vec 21 (Be e)))), (2, some (.var Cd)), (3, some (.var (.agg (Ba S)))), (4, some (.var (.vec 8 (vE v)))), (900, some (.row 21 (l.map Be)))]
theorem Oa {l : List Obj} {i : Bo} {k : Nat} {x : Obj} (hk : k < Cc l i) (hx : l[k]? = some x) : Ib x.id i = true := by
 obtain ⟨y, h1, h2⟩ := Apl (l := l.map obN) hk;rw [U5 hx] at h1; cases h1; exact h2
theorem Qp {l : List Obj} (hs : En l) {i : Bo} {k : Nat} {x : Obj} (hk : Cc l i ≤ k) (hx : l[k]? = some x) : ¬ Ib x.id i = true := A1p (l := l.map obN) hs hk (U5 hx)
set_option maxHeartbeats 16000000 in
theorem Ws {f : Bool} {l : List Evt} {rk : Evt → Nat} {h d} (hE : EvsOk l rk) (hB : ∀ e ∈ l, 1 ≤ e.rep ∧ e.rep ≤ 8) : FunOk Tryz.prog 15 [.pv (.sl f 21 (l.map Be))] h d (.agg (Ba (Am l))) [] := by
 refine Aq Af fn15 (by simp) rfl rfl fun F => ?_;have hn := hE.len;have hevs : ∀ e ∈ l, ev e := fun e he => (hE.ev e he).1;simp (disch := omega) only [ir15, Blk.ptr, go_sem];refine Aa (Aa9 (l := l) rfl rfl (by omega)) ?_;simp (disch := omega) only [go_sem];refine Aa (Y2 (l := l) rfl rfl (by omega) hevs) ?_;simp (disch := omega) only [go_sem];refine A1 Af (Tq f l) (fun k => k ≤ l.length) (fun k => l.length - k) 0 (by simp) (Ak ?_ ?_) fun k hk => ?_
 · simp (disch := omega) only [go_sem]
 · simp (disch := omega) only [F7, List.take_zero, List.foldl_nil, Cd, go_sem];exact ⟨Uq (s := ⟨Bh l, [], C3 l l, fun _ => 0, fun _ => false⟩) (.inl rfl) (.inr rfl) trivial (.refl _), rfl⟩
 by_cases hlt : k < l.length
 · have hx : l[k]? = some l[k] := List.getElem?_eq_getElem hlt;have he : (l.map Be)[k]? = some (Be l[k]) := by rw [List.getElem?_map, hx]; rfl
   have ht := Dc hx;have hsn := H6 l (l.take k) l[k];have hlk : (l.take k).length ≤ 400 := by simp; omega
   have hnd := hE.nod.take (k + 1);rw [← ht] at hsn;rw [ht] at hnd;have hrep := hB _ (List.getElem_mem hlt);generalize l[k] = e at *;obtain ⟨hso, hol, hom⟩ := Rt (l := l) _ (l.take k) rfl (hE.nod.take k);have hel := Ac e;generalize hX : F7 l (l.take k) = X at *;obtain ⟨S, v⟩ := X;simp only at hso hol hom;by_cases h12 : e.kind = 1 ∨ e.kind = 2
   · have hs : D4 l (S, v) e = ({ S with objs := Hs S.objs (C9 l l e) }, v) := by unfold D4; rw [if_pos h12]
     rw [hs] at hsn;have n8 : ¬ e.kind = 8 := by omega
     have n9 : ¬ e.kind = 9 := by omega
     have hoe := Eu (C9 l l e);have hoi := Jb l e l;have hnew : ∀ x ∈ S.objs, x.id ≠ Aj e := fun x hx => by
      obtain ⟨f, hf, _, rfl⟩ := (hom x).1 hx;rw [Jb];unfold NodE at hnd;rw [List.map_append, List.nodup_append] at hnd;exact hnd.2.2 (Aj f) (List.mem_map_of_mem hf) (Aj e) (by simp)
     rcases h12 with h1 | h2
     · simp (disch := omega) only [Tq, hX, List.length_map, he, Bj, hel, Ag, h1, go_sem];refine Aa (Y1 e hE) ?_;simp (disch := omega) only [hoe, Ba, A6, List.length_map, Cd, go_sem];generalize hO : C9 l l e = o at *;have hp0 := Lx S.objs (Aj e);refine A1 Af (Yr f l k e S v o) (fun j => Cc S.objs (Aj e) ≤ j ∧ j ≤ S.objs.length) (fun j => j) S.objs.length ⟨hp0, Nat.le_refl _⟩ (Ak ?_ ?_) fun j hj => ?_
       · simp (disch := omega) only [go_sem]
       · simp (disch := omega) only [Ba, A6, Cd, go_sem]
       obtain ⟨hj1, hj2⟩ := hj;by_cases hj0 : j = 0
       · subst hj0;have hjq : Cc S.objs (Aj e) = 0 := by omega
         simp (disch := omega) only [Yr, Ba, A6, Cd, go_sem];have hT : (S.objs.map Ap).take S.objs.length = S.objs.map Ap := List.take_of_length_le (by simp);have hD : ((S.objs.map Ap).drop 0).length = S.objs.length - 0 := by simp
         have hD2 : ((S.objs.map Ap).take 0).length = 0 := by rw [List.length_take, List.length_map]; omega
         have hI : (S.objs.map Ap).take 0 ++ Ap o :: S.objs.map Ap = (Hs S.objs o).map Ap := by
          unfold Hs; rw [hoi, hjq]; simp [List.map_take, List.map_drop]
         refine Km ?_;simp (disch := omega) only [List.length_map, Fz, hoe, hT, hD, hD2, Ag, n8, n9, go_sem];refine ⟨k + 1, by omega, by omega, Ed 70 rfl (Ak ?_ ?_)⟩
         · simp (disch := omega) only [go_sem]
         · simp (disch := omega) only [hI, hsn, Ba, A6, Cd, go_sem]
       · have hjx : j - 1 < S.objs.length := by omega
         have hx3 : S.objs[j - 1]? = some S.objs[j - 1] := List.getElem?_eq_getElem hjx;have he3 : (S.objs.map Ap)[j - 1]? = some (Ap S.objs[j - 1]) := by rw [List.getElem?_map, hx3]; rfl
         have hmx := List.getElem_mem hjx;have ejn : ((j : Int) - 1).toNat = j - 1 := by omega
         have hjp : (0 : Int) < j := by omega
         generalize S.objs[j - 1] = x at *;simp (disch := omega) only [Yr, Ba, A6, Cd, hjp, List.length_map, ejn, he3, He, go_sem];refine Aa (Gb o.id.1 o.id.2 x.id.1 x.id.2) ?_;by_cases hlx : Cp o.id.1 o.id.2 x.id.1 x.id.2 = true
         · simp (disch := omega) only [hlx, go_sem];refine Ad (j - 1) _ _ rfl ⟨?_, by omega⟩ (by omega) ?_ ?_
           · have : ¬ Cc S.objs (Aj e) = j := fun q => Nk (Oa (i := Aj e) (by omega) hx3) (by rw [← hoi]; exact hlx);omega
           · simp (disch := omega) only [go_sem]
           · simp (disch := omega) only [Ba, A6, Cd, go_sem]
         · have hlx' : Cp o.id.1 o.id.2 x.id.1 x.id.2 = false := by simpa using hlx
           have hjq : Cc S.objs (Aj e) = j := by
            have h3 : Ib x.id (Aj e) = true := by
             rw [hoi] at hlx;exact Kg hlx (fun q => hnew x hmx q.symm)
            have : ¬ Cc S.objs (Aj e) ≤ j - 1 := fun q => Qp hso q hx3 h3;omega
           simp (disch := omega) only [hlx', go_sem];have hT : (S.objs.map Ap).take S.objs.length = S.objs.map Ap := List.take_of_length_le (by simp);have hD : ((S.objs.map Ap).drop j).length = S.objs.length - j := by simp
           have hD2 : ((S.objs.map Ap).take j).length = j := by rw [List.length_take, List.length_map]; omega
           have hI : (S.objs.map Ap).take j ++ Ap o :: (S.objs.map Ap).drop j = (Hs S.objs o).map Ap := by
            unfold Hs; rw [hoi, hjq]; simp [List.map_take, List.map_drop]
           refine Km ?_;simp (disch := omega) only [List.length_map, Fz, hoe, hT, hD, hD2, Ag, n8, n9, go_sem];refine ⟨k + 1, by omega, by omega, Ed 70 rfl (Ak ?_ ?_)⟩
           · simp (disch := omega) only [go_sem]
           · simp (disch := omega) only [hI, hsn, Ba, A6, Cd, go_sem]
     · have n1 : ¬ e.kind = 1 := by omega
       simp (disch := omega) only [Tq, hX, List.length_map, he, Bj, hel, Ag, n1, h2, go_sem];refine Aa (Y1 e hE) ?_;simp (disch := omega) only [hoe, Ba, A6, List.length_map, Cd, go_sem];generalize hO : C9 l l e = o at *;have hp0 := Lx S.objs (Aj e);refine A1 Af (Yr f l k e S v o) (fun j => Cc S.objs (Aj e) ≤ j ∧ j ≤ S.objs.length) (fun j => j) S.objs.length ⟨hp0, Nat.le_refl _⟩ (Ak ?_ ?_) fun j hj => ?_
       · simp (disch := omega) only [go_sem]
       · simp (disch := omega) only [Ba, A6, Cd, go_sem]
       obtain ⟨hj1, hj2⟩ := hj;by_cases hj0 : j = 0
       · subst hj0;have hjq : Cc S.objs (Aj e) = 0 := by omega
         simp (disch := omega) only [Yr, Ba, A6, Cd, go_sem];have hT : (S.objs.map Ap).take S.objs.length = S.objs.map Ap := List.take_of_length_le (by simp);have hD : ((S.objs.map Ap).drop 0).length = S.objs.length - 0 := by simp
         have hD2 : ((S.objs.map Ap).take 0).length = 0 := by rw [List.length_take, List.length_map]; omega
         have hI : (S.objs.map Ap).take 0 ++ Ap o :: S.objs.map Ap = (Hs S.objs o).map Ap := by
          unfold Hs; rw [hoi, hjq]; simp [List.map_take, List.map_drop]
         refine Km ?_;simp (disch := omega) only [List.length_map, Fz, hoe, hT, hD, hD2, Ag, n8, n9, go_sem];refine ⟨k + 1, by omega, by omega, Ed 70 rfl (Ak ?_ ?_)⟩
         · simp (disch := omega) only [go_sem]
         · simp (disch := omega) only [hI, hsn, Ba, A6, Cd, go_sem]
       · have hjx : j - 1 < S.objs.length := by omega
         have hx3 : S.objs[j - 1]? = some S.objs[j - 1] := List.getElem?_eq_getElem hjx;have he3 : (S.objs.map Ap)[j - 1]? = some (Ap S.objs[j - 1]) := by rw [List.getElem?_map, hx3]; rfl
         have hmx := List.getElem_mem hjx;have ejn : ((j : Int) - 1).toNat = j - 1 := by omega
         have hjp : (0 : Int) < j := by omega
         generalize S.objs[j - 1] = x at *;simp (disch := omega) only [Yr, Ba, A6, Cd, hjp, List.length_map, ejn, he3, He, go_sem];refine Aa (Gb o.id.1 o.id.2 x.id.1 x.id.2) ?_;by_cases hlx : Cp o.id.1 o.id.2 x.id.1 x.id.2 = true
         · simp (disch := omega) only [hlx, go_sem];refine Ad (j - 1) _ _ rfl ⟨?_, by omega⟩ (by omega) ?_ ?_
           · have : ¬ Cc S.objs (Aj e) = j := fun q => Nk (Oa (i := Aj e) (by omega) hx3) (by rw [← hoi]; exact hlx);omega
           · simp (disch := omega) only [go_sem]
           · simp (disch := omega) only [Ba, A6, Cd, go_sem]
         · have hlx' : Cp o.id.1 o.id.2 x.id.1 x.id.2 = false := by simpa using hlx
           have hjq : Cc S.objs (Aj e) = j := by
            have h3 : Ib x.id (Aj e) = true := by
             rw [hoi] at hlx;exact Kg hlx (fun q => hnew x hmx q.symm)
            have : ¬ Cc S.objs (Aj e) ≤ j - 1 := fun q => Qp hso q hx3 h3;omega
           simp (disch := omega) only [hlx', go_sem];have hT : (S.objs.map Ap).take S.objs.length = S.objs.map Ap := List.take_of_length_le (by simp);have hD : ((S.objs.map Ap).drop j).length = S.objs.length - j := by simp
           have hD2 : ((S.objs.map Ap).take j).length = j := by rw [List.length_take, List.length_map]; omega
           have hI : (S.objs.map Ap).take j ++ Ap o :: (S.objs.map Ap).drop j = (Hs S.objs o).map Ap := by
            unfold Hs; rw [hoi, hjq]; simp [List.map_take, List.map_drop]
           refine Km ?_;simp (disch := omega) only [List.length_map, Fz, hoe, hT, hD, hD2, Ag, n8, n9, go_sem];refine ⟨k + 1, by omega, by omega, Ed 70 rfl (Ak ?_ ?_)⟩
           · simp (disch := omega) only [go_sem]
           · simp (disch := omega) only [hI, hsn, Ba, A6, Cd, go_sem]
   have n1 : ¬ e.kind = 1 := fun h => h12 (.inl h);have n2 : ¬ e.kind = 2 := fun h => h12 (.inr h);obtain ⟨r, hr8, hre⟩ : ∃ r : Nat, r < 8 ∧ e.rep - 1 = r := ⟨(e.rep - 1).toNat, by omega, by omega⟩
   by_cases h8 : e.kind = 8
   · have n9 : ¬ e.kind = 9 := by omega
     by_cases hq : Ht v e.rep < e.seq
     · have hs : D4 l (S, v) e = (Ii S e, A8 v e.rep e.seq) := by unfold D4; rw [if_neg h12, if_pos h8]; exact if_pos hq
       rw [hs] at hsn;have hS : Ii S e = { S with wards := E9 S.wards r e.ward } := by unfold Ii; rw [hre]; rfl
       rw [hS] at hsn;have hsp := V1 S hr8 e.ward (.sl false 15 (S.objs.map Ap)) (.sl false 15 (S.ents.map Bn));have hq' : ((Ht v e.rep : Nat) : Int) < (e.seq : Int) := by omega
       have hvl := Bk (A8 v e.rep e.seq);simp (disch := omega) only [Tq, hX, List.length_map, he, Bj, hel, Ag, n1, n2, h8, De, F3, go_sem];refine Aa (Pu v e.rep) ?_;simp (disch := omega) only [hq', Aw, go_sem];refine Aa (Fa _ _ _) ?_;simp (disch := omega) only [hvl, De, hre, Ux, Ba, A6, hsp, Ag, h8, go_sem];refine Ad (k + 1) _ _ rfl (by omega) (by omega) ?_ ?_
       · simp (disch := omega) only [go_sem]
       · simp (disch := omega) only [hsn, Cd, go_sem];exact ⟨Sa { S with wards := E9 S.wards r e.ward }, rfl⟩
     · have hs : D4 l (S, v) e = (S, v) := by unfold D4; rw [if_neg h12, if_pos h8]; exact if_neg hq
       rw [hs] at hsn;have hq' : ¬ ((Ht v e.rep : Nat) : Int) < (e.seq : Int) := by omega
       simp (disch := omega) only [Tq, hX, List.length_map, he, Bj, hel, Ag, n1, n2, h8, De, F3, go_sem];refine Aa (Pu v e.rep) ?_;simp (disch := omega) only [hq', Ag, h8, go_sem];refine Ad (k + 1) _ _ rfl (by omega) (by omega) ?_ ?_
       · simp (disch := omega) only [go_sem]
       · simp (disch := omega) only [hsn, Cd, Ba, A6, go_sem]
   by_cases h9 : e.kind = 9
   · have hs : D4 l (S, v) e = (Oy S e, v) := by unfold D4; rw [if_neg h12, if_neg h8, if_pos h9]
     rw [hs] at hsn;have hS : Oy S e = { S with ret := E9 S.ret r true } := by unfold Oy; rw [hre]; rfl
     rw [hS] at hsn;have hsp := Aas S hr8 true (.sl false 15 (S.objs.map Ap)) (.sl false 15 (S.ents.map Bn));simp (disch := omega) only [Tq, hX, List.length_map, he, Bj, hel, Ag, n1, n2, h8, h9, De, hre, Ba, A6, hsp, go_sem];refine Ad (k + 1) _ _ rfl (by omega) (by omega) ?_ ?_
     · simp (disch := omega) only [go_sem]
     · simp (disch := omega) only [hsn, Cd, go_sem];exact Sa { S with ret := E9 S.ret r true }
   · have hs : D4 l (S, v) e = (S, v) := by unfold D4; rw [if_neg h12, if_neg h8, if_neg h9]
     rw [hs] at hsn;simp (disch := omega) only [Tq, hX, List.length_map, he, Bj, hel, Ag, n1, n2, h8, h9, go_sem];refine Ad (k + 1) _ _ rfl (by omega) (by omega) ?_ ?_
     · simp (disch := omega) only [go_sem]
     · simp (disch := omega) only [hsn, Cd, Ba, A6, go_sem]
 obtain rfl : k = l.length := by omega
 have htk : l.take l.length = l := List.take_length;simp (disch := omega) only [Tq, Cd, Ba, A6, List.length_map, htk, Am, go_sem]
set_option maxHeartbeats 16000000 in
theorem Ak7 {l : List Evt} {rk : Evt → Nat} {h d} (hE : EvsOk l rk) (hB : ∀ e ∈ l, 1 ≤ e.rep ∧ e.rep ≤ 8) (hg : h 900 = some (.row 21 (l.map Be))) : FunOk Tryz.prog 15 [.os 900] h d (.agg (Ba (Am l))) [.upd 900 (.row 21 (l.map Be))] := by
 refine Gg (g := 900) Af fn15 (by simp) (by simp [A3, tn]) (by simp [A3, tn]) hg rfl (by simp [Blk.ptr, SV.kill]) rfl (fun _ => rfl) fun F => ?_;obtain ⟨f, hf⟩ : ∃ f : Bool, f = false := ⟨_, rfl⟩
 have hn := hE.len;have hevs : ∀ e ∈ l, ev e := fun e he => (hE.ev e he).1;simp (disch := omega) only [ir15, Blk.ptr, go_sem];refine Aa (Aa9 (l := l) rfl rfl (by omega)) ?_;simp (disch := omega) only [go_sem];refine Aa (Y2 (l := l) rfl rfl (by omega) hevs) ?_;simp (disch := omega) only [go_sem];refine A1 Af (Tp f l) (fun k => k ≤ l.length) (fun k => l.length - k) 0 (by simp) (Ak ?_ ?_) fun k hk => ?_
 · simp (disch := omega) only [go_sem]
 · simp (disch := omega) only [F7, List.take_zero, List.foldl_nil, Cd, go_sem];exact ⟨Uq (s := ⟨Bh l, [], C3 l l, fun _ => 0, fun _ => false⟩) (.inl rfl) (.inr rfl) trivial (.refl _), rfl⟩
 by_cases hlt : k < l.length
 · have hx : l[k]? = some l[k] := List.getElem?_eq_getElem hlt;have he : (l.map Be)[k]? = some (Be l[k]) := by rw [List.getElem?_map, hx]; rfl
   have ht := Dc hx;have hsn := H6 l (l.take k) l[k];have hlk : (l.take k).length ≤ 400 := by simp; omega
   have hnd := hE.nod.take (k + 1);rw [← ht] at hsn;rw [ht] at hnd;have hrep := hB _ (List.getElem_mem hlt);generalize l[k] = e at *;obtain ⟨hso, hol, hom⟩ := Rt (l := l) _ (l.take k) rfl (hE.nod.take k);have hel := Ac e;generalize hX : F7 l (l.take k) = X at *;obtain ⟨S, v⟩ := X;simp only at hso hol hom;by_cases h12 : e.kind = 1 ∨ e.kind = 2
   · have hs : D4 l (S, v) e = ({ S with objs := Hs S.objs (C9 l l e) }, v) := by unfold D4; rw [if_pos h12]
     rw [hs] at hsn;have n8 : ¬ e.kind = 8 := by omega
     have n9 : ¬ e.kind = 9 := by omega
     have hoe := Eu (C9 l l e);have hoi := Jb l e l;have hnew : ∀ x ∈ S.objs, x.id ≠ Aj e := fun x hx => by
      obtain ⟨f, hf, _, rfl⟩ := (hom x).1 hx;rw [Jb];unfold NodE at hnd;rw [List.map_append, List.nodup_append] at hnd;exact hnd.2.2 (Aj f) (List.mem_map_of_mem hf) (Aj e) (by simp)
     rcases h12 with h1 | h2
     · simp (disch := omega) only [Tp, hX, List.length_map, he, Bj, hel, Ag, h1, go_sem];refine Aa (Y0 e hE rfl) ?_;simp (disch := omega) only [hoe, Ba, A6, List.length_map, Cd, go_sem];generalize hO : C9 l l e = o at *;have hp0 := Lx S.objs (Aj e);refine A1 Af (Yq f l k e S v o) (fun j => Cc S.objs (Aj e) ≤ j ∧ j ≤ S.objs.length) (fun j => j) S.objs.length ⟨hp0, Nat.le_refl _⟩ (Ak ?_ ?_) fun j hj => ?_
       · simp (disch := omega) only [go_sem]
       · simp (disch := omega) only [Ba, A6, Cd, go_sem]
       obtain ⟨hj1, hj2⟩ := hj;by_cases hj0 : j = 0
       · subst hj0;have hjq : Cc S.objs (Aj e) = 0 := by omega
         simp (disch := omega) only [Yq, Ba, A6, Cd, go_sem];have hT : (S.objs.map Ap).take S.objs.length = S.objs.map Ap := List.take_of_length_le (by simp);have hD : ((S.objs.map Ap).drop 0).length = S.objs.length - 0 := by simp
         have hD2 : ((S.objs.map Ap).take 0).length = 0 := by rw [List.length_take, List.length_map]; omega
         have hI : (S.objs.map Ap).take 0 ++ Ap o :: S.objs.map Ap = (Hs S.objs o).map Ap := by
          unfold Hs; rw [hoi, hjq]; simp [List.map_take, List.map_drop]
         refine Km ?_;simp (disch := omega) only [List.length_map, Fz, hoe, hT, hD, hD2, Ag, n8, n9, go_sem];refine ⟨k + 1, by omega, by omega, Ed 70 rfl (Ak ?_ ?_)⟩
         · simp (disch := omega) only [go_sem]
         · simp (disch := omega) only [hI, hsn, Ba, A6, Cd, go_sem]
       · have hjx : j - 1 < S.objs.length := by omega
         have hx3 : S.objs[j - 1]? = some S.objs[j - 1] := List.getElem?_eq_getElem hjx;have he3 : (S.objs.map Ap)[j - 1]? = some (Ap S.objs[j - 1]) := by rw [List.getElem?_map, hx3]; rfl
         have hmx := List.getElem_mem hjx;have ejn : ((j : Int) - 1).toNat = j - 1 := by omega
         have hjp : (0 : Int) < j := by omega
         generalize S.objs[j - 1] = x at *;simp (disch := omega) only [Yq, Ba, A6, Cd, hjp, List.length_map, ejn, he3, He, go_sem];refine Aa (Gb o.id.1 o.id.2 x.id.1 x.id.2) ?_;by_cases hlx : Cp o.id.1 o.id.2 x.id.1 x.id.2 = true
         · simp (disch := omega) only [hlx, go_sem];refine Ad (j - 1) _ _ rfl ⟨?_, by omega⟩ (by omega) ?_ ?_
           · have : ¬ Cc S.objs (Aj e) = j := fun q => Nk (Oa (i := Aj e) (by omega) hx3) (by rw [← hoi]; exact hlx);omega
           · simp (disch := omega) only [go_sem]
           · simp (disch := omega) only [Ba, A6, Cd, go_sem]
         · have hlx' : Cp o.id.1 o.id.2 x.id.1 x.id.2 = false := by simpa using hlx
           have hjq : Cc S.objs (Aj e) = j := by
            have h3 : Ib x.id (Aj e) = true := by
             rw [hoi] at hlx;exact Kg hlx (fun q => hnew x hmx q.symm)
            have : ¬ Cc S.objs (Aj e) ≤ j - 1 := fun q => Qp hso q hx3 h3;omega
           simp (disch := omega) only [hlx', go_sem];have hT : (S.objs.map Ap).take S.objs.length = S.objs.map Ap := List.take_of_length_le (by simp);have hD : ((S.objs.map Ap).drop j).length = S.objs.length - j := by simp
           have hD2 : ((S.objs.map Ap).take j).length = j := by rw [List.length_take, List.length_map]; omega
           have hI : (S.objs.map Ap).take j ++ Ap o :: (S.objs.map Ap).drop j = (Hs S.objs o).map Ap := by
            unfold Hs; rw [hoi, hjq]; simp [List.map_take, List.map_drop]
           refine Km ?_;simp (disch := omega) only [List.length_map, Fz, hoe, hT, hD, hD2, Ag, n8, n9, go_sem];refine ⟨k + 1, by omega, by omega, Ed 70 rfl (Ak ?_ ?_)⟩
           · simp (disch := omega) only [go_sem]
           · simp (disch := omega) only [hI, hsn, Ba, A6, Cd, go_sem]
     · have n1 : ¬ e.kind = 1 := by omega
       simp (disch := omega) only [Tp, hX, List.length_map, he, Bj, hel, Ag, n1, h2, go_sem];refine Aa (Y0 e hE rfl) ?_;simp (disch := omega) only [hoe, Ba, A6, List.length_map, Cd, go_sem];generalize hO : C9 l l e = o at *;have hp0 := Lx S.objs (Aj e);refine A1 Af (Yq f l k e S v o) (fun j => Cc S.objs (Aj e) ≤ j ∧ j ≤ S.objs.length) (fun j => j) S.objs.length ⟨hp0, Nat.le_refl _⟩ (Ak ?_ ?_) fun j hj => ?_
       · simp (disch := omega) only [go_sem]
       · simp (disch := omega) only [Ba, A6, Cd, go_sem]
       obtain ⟨hj1, hj2⟩ := hj;by_cases hj0 : j = 0
       · subst hj0;have hjq : Cc S.objs (Aj e) = 0 := by omega
         simp (disch := omega) only [Yq, Ba, A6, Cd, go_sem];have hT : (S.objs.map Ap).take S.objs.length = S.objs.map Ap := List.take_of_length_le (by simp);have hD : ((S.objs.map Ap).drop 0).length = S.objs.length - 0 := by simp
         have hD2 : ((S.objs.map Ap).take 0).length = 0 := by rw [List.length_take, List.length_map]; omega
         have hI : (S.objs.map Ap).take 0 ++ Ap o :: S.objs.map Ap = (Hs S.objs o).map Ap := by
          unfold Hs; rw [hoi, hjq]; simp [List.map_take, List.map_drop]
         refine Km ?_;simp (disch := omega) only [List.length_map, Fz, hoe, hT, hD, hD2, Ag, n8, n9, go_sem];refine ⟨k + 1, by omega, by omega, Ed 70 rfl (Ak ?_ ?_)⟩
         · simp (disch := omega) only [go_sem]
         · simp (disch := omega) only [hI, hsn, Ba, A6, Cd, go_sem]
       · have hjx : j - 1 < S.objs.length := by omega
         have hx3 : S.objs[j - 1]? = some S.objs[j - 1] := List.getElem?_eq_getElem hjx;have he3 : (S.objs.map Ap)[j - 1]? = some (Ap S.objs[j - 1]) := by rw [List.getElem?_map, hx3]; rfl
         have hmx := List.getElem_mem hjx;have ejn : ((j : Int) - 1).toNat = j - 1 := by omega
         have hjp : (0 : Int) < j := by omega
         generalize S.objs[j - 1] = x at *;simp (disch := omega) only [Yq, Ba, A6, Cd, hjp, List.length_map, ejn, he3, He, go_sem];refine Aa (Gb o.id.1 o.id.2 x.id.1 x.id.2) ?_;by_cases hlx : Cp o.id.1 o.id.2 x.id.1 x.id.2 = true
         · simp (disch := omega) only [hlx, go_sem];refine Ad (j - 1) _ _ rfl ⟨?_, by omega⟩ (by omega) ?_ ?_
           · have : ¬ Cc S.objs (Aj e) = j := fun q => Nk (Oa (i := Aj e) (by omega) hx3) (by rw [← hoi]; exact hlx);omega
           · simp (disch := omega) only [go_sem]
           · simp (disch := omega) only [Ba, A6, Cd, go_sem]
         · have hlx' : Cp o.id.1 o.id.2 x.id.1 x.id.2 = false := by simpa using hlx
           have hjq : Cc S.objs (Aj e) = j := by
            have h3 : Ib x.id (Aj e) = true := by
             rw [hoi] at hlx;exact Kg hlx (fun q => hnew x hmx q.symm)
            have : ¬ Cc S.objs (Aj e) ≤ j - 1 := fun q => Qp hso q hx3 h3;omega
           simp (disch := omega) only [hlx', go_sem];have hT : (S.objs.map Ap).take S.objs.length = S.objs.map Ap := List.take_of_length_le (by simp);have hD : ((S.objs.map Ap).drop j).length = S.objs.length - j := by simp
           have hD2 : ((S.objs.map Ap).take j).length = j := by rw [List.length_take, List.length_map]; omega
           have hI : (S.objs.map Ap).take j ++ Ap o :: (S.objs.map Ap).drop j = (Hs S.objs o).map Ap := by
            unfold Hs; rw [hoi, hjq]; simp [List.map_take, List.map_drop]
           refine Km ?_;simp (disch := omega) only [List.length_map, Fz, hoe, hT, hD, hD2, Ag, n8, n9, go_sem];refine ⟨k + 1, by omega, by omega, Ed 70 rfl (Ak ?_ ?_)⟩
           · simp (disch := omega) only [go_sem]
           · simp (disch := omega) only [hI, hsn, Ba, A6, Cd, go_sem]
   have n1 : ¬ e.kind = 1 := fun h => h12 (.inl h);have n2 : ¬ e.kind = 2 := fun h => h12 (.inr h);obtain ⟨r, hr8, hre⟩ : ∃ r : Nat, r < 8 ∧ e.rep - 1 = r := ⟨(e.rep - 1).toNat, by omega, by omega⟩
   by_cases h8 : e.kind = 8
   · have n9 : ¬ e.kind = 9 := by omega
     by_cases hq : Ht v e.rep < e.seq
     · have hs : D4 l (S, v) e = (Ii S e, A8 v e.rep e.seq) := by unfold D4; rw [if_neg h12, if_pos h8]; exact if_pos hq
       rw [hs] at hsn;have hS : Ii S e = { S with wards := E9 S.wards r e.ward } := by unfold Ii; rw [hre]; rfl
       rw [hS] at hsn;have hsp := V1 S hr8 e.ward (.sl false 15 (S.objs.map Ap)) (.sl false 15 (S.ents.map Bn));have hq' : ((Ht v e.rep : Nat) : Int) < (e.seq : Int) := by omega
       have hvl := Bk (A8 v e.rep e.seq);simp (disch := omega) only [Tp, hX, List.length_map, he, Bj, hel, Ag, n1, n2, h8, De, F3, go_sem];refine Aa (Pu v e.rep) ?_;simp (disch := omega) only [hq', Aw, go_sem];refine Aa (Fa _ _ _) ?_;simp (disch := omega) only [hvl, De, hre, Ux, Ba, A6, hsp, Ag, h8, go_sem];refine Ad (k + 1) _ _ rfl (by omega) (by omega) ?_ ?_
       · simp (disch := omega) only [go_sem]
       · simp (disch := omega) only [hsn, Cd, go_sem];exact ⟨Sa { S with wards := E9 S.wards r e.ward }, rfl⟩
     · have hs : D4 l (S, v) e = (S, v) := by unfold D4; rw [if_neg h12, if_pos h8]; exact if_neg hq
       rw [hs] at hsn;have hq' : ¬ ((Ht v e.rep : Nat) : Int) < (e.seq : Int) := by omega
       simp (disch := omega) only [Tp, hX, List.length_map, he, Bj, hel, Ag, n1, n2, h8, De, F3, go_sem];refine Aa (Pu v e.rep) ?_;simp (disch := omega) only [hq', Ag, h8, go_sem];refine Ad (k + 1) _ _ rfl (by omega) (by omega) ?_ ?_
       · simp (disch := omega) only [go_sem]
       · simp (disch := omega) only [hsn, Cd, Ba, A6, go_sem]
   by_cases h9 : e.kind = 9
   · have hs : D4 l (S, v) e = (Oy S e, v) := by unfold D4; rw [if_neg h12, if_neg h8, if_pos h9]
     rw [hs] at hsn;have hS : Oy S e = { S with ret := E9 S.ret r true } := by unfold Oy; rw [hre]; rfl
     rw [hS] at hsn;have hsp := Aas S hr8 true (.sl false 15 (S.objs.map Ap)) (.sl false 15 (S.ents.map Bn));simp (disch := omega) only [Tp, hX, List.length_map, he, Bj, hel, Ag, n1, n2, h8, h9, De, hre, Ba, A6, hsp, go_sem];refine Ad (k + 1) _ _ rfl (by omega) (by omega) ?_ ?_
     · simp (disch := omega) only [go_sem]
     · simp (disch := omega) only [hsn, Cd, go_sem];exact Sa { S with ret := E9 S.ret r true }
   · have hs : D4 l (S, v) e = (S, v) := by unfold D4; rw [if_neg h12, if_neg h8, if_neg h9]
     rw [hs] at hsn;simp (disch := omega) only [Tp, hX, List.length_map, he, Bj, hel, Ag, n1, n2, h8, h9, go_sem];refine Ad (k + 1) _ _ rfl (by omega) (by omega) ?_ ?_
     · simp (disch := omega) only [go_sem]
     · simp (disch := omega) only [hsn, Cd, Ba, A6, go_sem]
 obtain rfl : k = l.length := by omega
 have htk : l.take l.length = l := List.take_length;simp (disch := omega) only [Tp, Cd, Ba, A6, List.length_map, htk, Am, go_sem];refine Cg ?_;simp (disch := omega) only [go_sem]
theorem Aqf {l : List Evt} {rk : Evt → Nat} {h d g} (hE : EvsOk l rk) (hB : ∀ e ∈ l, 1 ≤ e.rep ∧ e.rep ≤ 8) (hg : h g = some (.row 21 (l.map Be))) : FunOk Tryz.prog 15 [.os g] h d (.agg (Ba (Am l))) [] :=
 FunOk.ioRow (fun h d hg => Ak7 hE hB hg) rfl rfl hg
theorem Agn {l : List Obj} (hs : En l) (i : Bo) : Fc l i = l.find? fun o => decide (o.id = i) := by
 cases h : Fc l i with
 | some o =>
   obtain ⟨h1, h2⟩ := Gz h;symm;obtain ⟨hlt, hg⟩ := List.getElem?_eq_some_iff.1 h1;rw [List.find?_eq_some_iff_getElem];refine ⟨by simpa using h2, Cc l i, hlt, hg, fun j hj => ?_⟩;have := Oa hj (List.getElem?_eq_getElem (by omega));simp only [Bool.not_eq_true', decide_eq_false_iff_not];intro q;rw [q] at this;exact Gf this
 | none =>
   symm;rw [List.find?_eq_none];intro x hx q;have q : x.id = i := by simpa using q
   obtain ⟨j, hj⟩ := List.mem_iff_getElem?.1 hx;have h1 : ¬ j < Cc l i := fun hq => by
    have := Oa hq hj;rw [q] at this; exact Gf this
   by_cases e : j = Cc l i
   · unfold Fc at h;rw [← e, hj] at h;simp only at h;rw [if_pos q] at h; cases h
   · have hlt := (List.getElem?_eq_some_iff.1 hj).1;have hp : Cc l i < l.length := by omega
     have hy : l[Cc l i]? = some l[Cc l i] := List.getElem?_eq_getElem hp;have h3 := K2 hs hy hj (by omega);rw [q] at h3;exact Qp hs (Nat.le_refl _) hy h3
def Aaj (s : St) (i : Bo) (z : SV) (k : Nat) : FS := mk [(6, .pv (.i .i64 k)), (2, .p 2 0), (3, .p 3 0), (4, .p 4 0)] [(2, some (.var (.agg (Ba s)))), (3, some (.var (.vec 2 [.i .i64 i.1, .i .u32 i.2]))), (4, some (.var z))]
def Ala : Obj := ⟨(0, 0), false, (0, 0), [], fun _ => 0, []⟩
theorem Alx : Imp (.agg [.pv (.i .i64 0), .pv (.i .u32 0), .pv (.b false), .pv (.i .i64 0), .pv (.i .u32 0), .pv (.s []), .vec 8 (vE fun _ => 0), .pv (.sl true 0 [])]) (.vec 15 (Ap Ala)) :=
 fun V ρ v h => Aly (Ai3 Ala (.inl rfl)) V ρ v (Hh (n := 15) (cs := Fb true 0 Ala) (by rfl) (Ef _ _ _) V ρ v h)
set_option maxHeartbeats 1000000 in
theorem Aix {s : St} (i : Bo) (hs : En s.objs) {h d} (hn : s.objs.length ≤ 1000) : FunOk Tryz.prog 92 [.agg (Ba s), .vec 2 [.i .i64 i.1, .i .u32 i.2]] h d (.tup [.vec 15 (Ap ((Fc s.objs i).getD Ala)), .pv (.b (Fc s.objs i).isSome)]) [] := by
 refine Om Af fn92 (by simp) rfl rfl fun F => ?_;simp (disch := omega) only [ir92, Ba, A6, go_sem];refine A1 Af (Aaj s i Gj) (fun k => k ≤ s.objs.length ∧ ∀ j x, j < k → s.objs[j]? = some x → x.id ≠ i) (fun k => s.objs.length - k) 0 ⟨by simp, fun j x hj => absurd hj (Nat.not_lt_zero j)⟩ (Ak ?_ ?_) fun k hk => ?_
 · simp (disch := omega) only [go_sem]
 · simp (disch := omega) only [Gj, Ba, A6, go_sem]
 obtain ⟨hk1, hk2⟩ := hk;rw [Agn hs];by_cases hlt : k < s.objs.length
 · have hx : s.objs[k]? = some s.objs[k] := List.getElem?_eq_getElem hlt;have he : (s.objs.map Ap)[k]? = some (Ap s.objs[k]) := by rw [List.getElem?_map, hx]; rfl
   have hgk : s.objs[k] = s.objs[k] := rfl;generalize hO : s.objs[k] = o at *;have hol := Eu o;by_cases hb : o.id = i
   · have hp := Ft hb;have hf : s.objs.find? (fun o => decide (o.id = i)) = some o := by
      rw [List.find?_eq_some_iff_getElem];refine ⟨by simpa using hb, k, hlt, hO, fun j hj => ?_⟩;simpa using hk2 j _ hj (List.getElem?_eq_getElem (by omega))
     rw [hf];simp (disch := omega) only [Aaj, Gj, Ba, A6, List.length_map, he, He, Ae, Bp, hp, Fz, hol, go_sem];refine Cg ?_;simp (disch := omega) only [go_sem];exact Imp.refl _
   · have hp := Fu hb;simp (disch := omega) only [Aaj, Gj, Ba, A6, List.length_map, he, He, Ae, Bp, hp, go_sem];refine Ad (k + 1) _ _ rfl ⟨by omega, fun j x hj hjx => ?_⟩ (by omega) ?_ ?_
     · by_cases ej : j = k
       · subst ej; rw [hx] at hjx; cases hjx; exact hb
       · exact hk2 j x (by omega) hjx
     · simp (disch := omega) only [go_sem]
     · simp (disch := omega) only [Gj, Ba, A6, go_sem]
 · obtain rfl : k = s.objs.length := by omega
   have hf : s.objs.find? (fun o => decide (o.id = i)) = none := by
    rw [List.find?_eq_none];intro x hx;obtain ⟨j, hj⟩ := List.mem_iff_getElem?.1 hx;simpa using hk2 j x (List.getElem?_eq_some_iff.1 hj).1 hj
   rw [hf];simp (disch := omega) only [Aaj, Gj, Ba, A6, List.length_map, go_sem];refine Cg ?_;simp (disch := omega) only [go_sem];exact Uk Alx
theorem Awb {s : St} (i : Bo) (hs : En s.objs) {h d} (hn : s.objs.length ≤ 1000) : FunOk Tryz.prog 91 [.agg (Ba s), .vec 2 [.i .i64 i.1, .i .u32 i.2]] h d (.pv (.i .i64 (Kw s.objs i))) [] := by
 refine Aq Af fn91 (by simp) rfl rfl fun F => ?_;have hd := Ahe (l := s.objs) i;have ho := Aix (s := s) i hs hn (h := fun _ => none) (d := 0);rw [show Ba s = [.vec 8 (vE s.known), .pv (.sl false 15 (s.objs.map Ap)), .pv (.sl false 15 (s.ents.map Bn)), .vec 8 (iE s.wards), .vec 8 (wE s.ret)] from rfl] at ho;simp (disch := omega) only [ir91, Ba, A6, go_sem];refine Aa (Apr _ _) ?_;by_cases h0 : i = (0, 0)
 · have hz : Cj i.1 i.2 = true := decide_eq_true (Acf h0);rw [if_pos h0] at hd;simp (disch := omega) only [hz, hd, go_sem]
 · have hz : Cj i.1 i.2 = false := decide_eq_false fun e => h0 (Prod.ext e.1 e.2);rw [if_neg h0] at hd;simp (disch := omega) only [hz, go_sem];refine Aa (ho.at (by simp [A3, tn])) ?_;cases hA : Fc s.objs i with
   | none =>
     rw [hA] at hd;simp only at hd;have hol := Eu Ala;simp (disch := omega) only [Option.isSome_none, hol, hd, go_sem]
   | some o =>
     rw [hA] at hd;simp only at hd;have hol := Eu o;by_cases hdd : o.dir = true
     · rw [if_pos hdd] at hd;simp (disch := omega) only [Option.isSome_some, Option.getD_some, hol, Ew, hdd, hd, go_sem]
     · have hdd' : o.dir = false := by simpa using hdd
       rw [if_neg hdd] at hd;simp (disch := omega) only [Option.isSome_some, Option.getD_some, hol, Ew, hdd', hd, go_sem]
theorem Aez {e : Evt} (h : Bm e = true) (hk : e.kind = 3 ∨ e.kind = 4 ∨ e.kind = 5) : ∀ b ∈ e.base.l, Bg e.dep b.1 b.2 = true := by
 unfold Bm at h;simp only [Bool.and_eq_true, decide_eq_true_eq] at h;have hK := h.2.2.2;have key : ∀ m, Eg e.base.l m e.dep = true → ∀ b ∈ e.base.l, Bg e.dep b.1 b.2 = true := fun m hm b hb => by
  unfold Eg G6 at hm;simp only [Bool.and_eq_true, decide_eq_true_eq] at hm;obtain ⟨j, hj⟩ := List.mem_iff_getElem?.1 hb;obtain ⟨hlt, hg⟩ := List.getElem?_eq_some_iff.1 hj;have := (hm.2 j hlt).1;rw [hg] at this; exact this
 rcases hk with h3 | h3 | h3
 · rw [Kf h3] at hK;simp only [Bool.and_eq_true] at hK;exact key _ hK.2.1
 · rw [Ok h3] at hK;simp only [Bool.and_eq_true] at hK;exact key _ hK.2.1
 · rw [Oj h3] at hK;simp only [Bool.and_eq_true] at hK;exact key _ hK.2.1
theorem Aem {a : Vc} {r : Int} {q : Nat} (h : Bg a r q = true) : 1 ≤ q ∧ 1 ≤ r ∧ r ≤ 8 ∧ q ≤ a (r - 1).toNat := by
 unfold Bg Ht at h;simp only [decide_eq_true_eq] at h;by_cases hr : 1 ≤ r ∧ r ≤ 8
 · rw [if_pos hr] at h; exact ⟨h.1, hr.1, hr.2, h.2⟩
 · rw [if_neg hr] at h; omega
def Aog (s : St) (e : Evt) (o : Obj) (k : Nat) : FS := mk [(7, .pv (.i .i64 k)), (2, .p 2 0), (3, .p 3 0), (5, .p 5 0), (4, .pv (.i .i64 0))] [(2, some (.var (.agg (Ba s)))), (3, some (.var (.vec 21 (Be e)))), (5, some (.var (.vec 15 (Ap o))))]
set_option maxHeartbeats 8000000 in
theorem Azr {s : St} {e : Evt} (hs : StIn s) (he : ev e) (hdep : ∀ i, i < 8 → e.dep i < 4294967296) {h d} : FunOk Tryz.prog 50 [.agg (Ba s), .vec 21 (Be e)] h d (.pv (.i .i64 (Ff s e))) [] := by
 refine Aq Af fn50 (by simp) rfl rfl fun F => ?_;have a1 := hs.fine.on;have hS : Ba s = [.vec 8 (vE s.known), .pv (.sl false 15 (s.objs.map Ap)), .pv (.sl false 15 (s.ents.map Bn)), .vec 8 (iE s.wards), .vec 8 (wE s.ret)] := rfl;have hO := Aix (s := s) (Az e) hs.so (by omega) (h := fun _ => none) (d := 0);have hD := Awb (s := s) (Hk e) hs.so (by omega) (h := fun _ => none) (d := 0);rw [hS] at hO hD;simp (disch := omega) only [ir50, Ba, A6, Bj, go_sem];refine Aa (Aqe e he hdep) ?_;by_cases hc' : Bm e = false
 · have hw : Ff s e = 7 := if_pos hc';simp (disch := omega) only [hc', hw, go_sem]
 have hc : Bm e = true := by simpa using hc'
 have hb := Cy hc;obtain ⟨b1, b2, b3, b4, b5, b6, b7⟩ := hb;simp (disch := omega) only [hc, Aw, Fd, go_sem];refine Aa (Nb _ _ _) ?_;by_cases h1 : Bg s.known e.rep e.seq = true
 · have hw : Ff s e = 11 := by unfold Ff; rw [if_neg hc', if_pos h1]
   simp (disch := omega) only [h1, hw, go_sem]
 have h1' : Bg s.known e.rep e.seq = false := by simpa using h1
 simp (disch := omega) only [h1', Fd, go_sem];refine Aa (Wn _ _) ?_;by_cases h2 : J1 e.dep s.known;rotate_left
 · have hw : Ff s e = 10 := by unfold Ff; rw [if_neg hc', if_neg h1, if_pos h2]
   have h2' := decide_eq_false h2;simp (disch := omega) only [h2', hw, go_sem]
 have h2' := decide_eq_true h2;obtain ⟨k, hk8, hre⟩ : ∃ k : Nat, k < 8 ∧ e.rep - 1 = k := ⟨(e.rep - 1).toNat, by omega, by omega⟩
 have hld := fun (a b : PV) (w : Nat → Int) (r : Nat → Bool) (K : KK) => Ajc a b w r hk8 K;simp (disch := omega) only [h2', De, hre, hld, go_sem];by_cases h3 : s.ret k = true
 · have hw : Ff s e = 28 := by unfold Ff; rw [if_neg hc', if_neg h1, if_neg (by simpa using h2), if_pos (by rw [hre]; exact h3)]
   simp (disch := omega) only [h3, hw, go_sem]
 have h3' : s.ret k = false := by simpa using h3
 have hw : Ff s e = Ub s e := by unfold Ff; rw [if_neg hc', if_neg h1, if_neg (by simpa using h2), if_neg (by rw [hre]; exact h3)]
 unfold Ub at hw;by_cases h89 : e.kind = 8 ∨ e.kind = 9
 · rw [if_pos h89] at hw;rcases h89 with h8 | h9
   · simp (disch := omega) only [h3', Ag, h8, hw, go_sem]
   · have n8 : ¬ e.kind = 8 := by omega
     simp (disch := omega) only [h3', Ag, n8, h9, hw, go_sem]
 rw [if_neg h89] at hw;have n8 : ¬ e.kind = 8 := fun q => h89 (.inl q);have n9 : ¬ e.kind = 9 := fun q => h89 (.inr q);by_cases h12 : e.kind = 1 ∨ e.kind = 2
 · rw [if_pos h12] at hw;rcases h12 with h1k | h2k
   · simp (disch := omega) only [h3', Ag, n8, n9, h1k, Dk, go_sem];refine Aa (hD.at (by simp [A3, tn])) ?_;simp (disch := omega) only [hw, go_sem]
   · have n1 : ¬ e.kind = 1 := by omega
     simp (disch := omega) only [h3', Ag, n8, n9, n1, h2k, Dk, go_sem];refine Aa (hD.at (by simp [A3, tn])) ?_;simp (disch := omega) only [hw, go_sem]
 rw [if_neg h12] at hw;have n1 : ¬ e.kind = 1 := fun q => h12 (.inl q);have n2 : ¬ e.kind = 2 := fun q => h12 (.inr q);simp (disch := omega) only [h3', Ag, n8, n9, n1, n2, A7, go_sem];refine Aa (hO.at (by simp [A3, tn])) ?_;cases hA : Fc s.objs (Az e) with
 | none =>
   rw [hA] at hw;simp only at hw;have hol := Eu Ala;simp (disch := omega) only [Option.isSome_none, Option.getD_none, hol, hw, go_sem]
 | some o =>
   rw [hA] at hw;simp only at hw;have hol := Eu o;by_cases h7 : e.kind = 7
   · rw [if_pos h7] at hw;simp (disch := omega) only [Option.isSome_some, Option.getD_some, hol, Ag, h7, Dk, go_sem];refine Aa (hD.at (by simp [A3, tn])) ?_;simp (disch := omega) only [hw, go_sem]
   rw [if_neg h7] at hw;by_cases h6 : e.kind = 6
   · rw [if_pos h6] at hw;simp (disch := omega) only [Option.isSome_some, Option.getD_some, hol, Ag, h7, h6, hw, go_sem]
   rw [if_neg h6] at hw;by_cases hd : o.dir = true
   · rw [if_pos hd] at hw;simp (disch := omega) only [Option.isSome_some, Option.getD_some, hol, Ag, h7, h6, Ew, hd, hw, go_sem]
   rw [if_neg hd] at hw;have hd' : o.dir = false := by simpa using hd
   have hk345 : e.kind = 3 ∨ e.kind = 4 ∨ e.kind = 5 := by omega
   have hb1 := Aez hc hk345;have hbl := Pe hc hk345;have hom := List.mem_of_getElem? (Gz hA).1;have hov := hs.fine.ov o hom;have hpv : e.base.pv = .sl e.base.f e.base.z (e.base.l.map Eb) := rfl;simp (disch := omega) only [Option.isSome_some, Option.getD_some, hol, Ag, h7, h6, Ew, hd', go_sem];refine A1 Af (Aog s e o) (fun k => k ≤ e.base.l.length ∧ ∀ j b, j < k → e.base.l[j]? = some b → Br o.vers b.1 b.2 ≠ none) (fun k => e.base.l.length - k) 0 ⟨by simp, fun j b hj => absurd hj (Nat.not_lt_zero j)⟩ (Ak ?_ ?_) fun k hk => ?_
   · simp (disch := omega) only [go_sem]
   · simp (disch := omega) only [Ba, A6, go_sem]
   obtain ⟨hk1, hk2⟩ := hk;by_cases hlt : k < e.base.l.length
   · have hx : e.base.l[k]? = some e.base.l[k] := List.getElem?_eq_getElem hlt;have hel : (e.base.l.map Eb)[k]? = some (Eb e.base.l[k]) := by rw [List.getElem?_map, hx]; rfl
     have hz2 : e.base.z = 2 := he.2.1.resolve_left fun q => by rw [q] at hlt; simp at hlt
     have hbm := List.getElem_mem hlt;have hbz := Aem (hb1 _ hbm);generalize e.base.l[k] = b at *;have hnz : ¬ (b.1 = 0 ∧ b.2 = 0) := by omega
     simp (disch := omega) only [Aog, Ba, A6, Fl, hpv, List.length_map, hz2, hel, El, E4, go_sem];refine Aa (Ai0 (l := o.vers) b.1 b.2 rfl rfl (by omega)) ?_;cases hf : Br o.vers b.1 b.2 with
     | none =>
       have hm : Dj o.vers e.base.l := ⟨b, hbm, hf⟩
       rw [if_pos hm] at hw;have hdv := Rl hnz hf;simp (disch := omega) only [hdv, hw, go_sem]
     | some v =>
       have hdv := Mf hnz hf;simp (disch := omega) only [hdv, go_sem];refine Ad (k + 1) _ _ rfl ⟨by omega, fun j c hj hjc => ?_⟩ (by omega) ?_ ?_
       · by_cases ej : j = k
         · subst ej; rw [hx] at hjc; cases hjc; rw [hf]; simp
         · exact hk2 j c (by omega) hjc
       · simp (disch := omega) only [go_sem]
       · simp (disch := omega) only [Ba, A6, go_sem]
   · obtain rfl : k = e.base.l.length := by omega
     have hm : ¬ Dj o.vers e.base.l := fun ⟨b, hbm, hf⟩ => by
      obtain ⟨j, hj⟩ := List.mem_iff_getElem?.1 hbm;exact hk2 j b (List.getElem?_eq_some_iff.1 hj).1 hj hf
     rw [if_neg hm] at hw;simp (disch := omega) only [Aog, Ba, A6, Fl, hpv, List.length_map, hw, go_sem]
def vid (v : Ver) : Bo := (v.rep, v.seq)
def Pa (bs : List Bo) (r : Int) (q : Nat) (x : Ver) : Ver := if (x.rep, x.seq) ∈ bs then Ev x r q else x
theorem Abg (l : List Ver) (bs : List Bo) (r : Int) (q : Nat) : D0 l bs r q = l.map (Pa bs r q) := rfl
theorem Ad3 (bs : List Bo) (r : Int) (q : Nat) (x : Ver) : vid (Pa bs r q x) = vid x := by
 have := Gu x bs r q;simp only [vid, Pa, this.1, this.2]
theorem Aq3 {l : List Ver} {bs : List Bo} {v x : Ver} : x ∈ Fp l bs v ↔ x = v ∨ ∃ y ∈ l, x = Pa bs v.rep v.seq y := by
 unfold Fp;rw [Abg];have h : ∀ p, x ∈ (l.map (Pa bs v.rep v.seq)).take p ++ v :: (l.map (Pa bs v.rep v.seq)).drop p ↔ x = v ∨ x ∈ l.map (Pa bs v.rep v.seq) := fun p => by
  conv => rhs; rw [← List.take_append_drop p (l.map (Pa bs v.rep v.seq))]
  simp only [List.mem_append, List.mem_cons];constructor
  · rintro (h | h | h)
    · exact .inr (.inl h)
    · exact .inl h
    · exact .inr (.inr h)
  · rintro (h | h | h)
    · exact .inr (.inl h)
    · exact .inl h
    · exact .inr (.inr h)
 rw [h, List.mem_map];exact or_congr_right ⟨fun ⟨y, h1, h2⟩ => ⟨y, h1, h2.symm⟩, fun ⟨y, h1, h2⟩ => ⟨y, h1, h2.symm⟩⟩
theorem Atq {l : List Ver} {r : Int} {q : Nat} (h : Br l r q = none) : ∃ p, P9 l r q 0 = (p, false) := by
 rcases ha : P9 l r q 0 with ⟨p, b⟩
 cases b with
 | false => exact ⟨p, rfl⟩
 | true => obtain ⟨_, u, _, _, h4⟩ := Iu ha; rw [h] at h4; cases h4
theorem Afe {l : List Ver} {bs : List Bo} {v : Ver} (hs : Cv l) (h : Br l v.rep v.seq = none) : Cv (Fp l bs v) := by
 obtain ⟨p, hp⟩ := Atq h;obtain ⟨_, g2, g3, g4, g5, g6⟩ := H7 hs hp;rw [Nat.sub_zero] at g2 g5 g6;have hM := Qx (bs := bs) (r := v.rep) (q := v.seq) hs;unfold Fp;rw [hp];simp only;have h5 : ∀ x ∈ (D0 l bs v.rep v.seq).take p, Cp x.rep x.seq v.rep v.seq = true := fun x hx => by
  rw [Abg, ← List.map_take] at hx;obtain ⟨y, hy, rfl⟩ := List.mem_map.1 hx;have := Ad3 bs v.rep v.seq y;simp only [vid, Prod.mk.injEq] at this;rw [this.1, this.2]; exact g5 y hy
 have h6 : ∀ x ∈ (D0 l bs v.rep v.seq).drop p, Cp v.rep v.seq x.rep x.seq = true := fun x hx => by
  rw [Abg, ← List.map_drop] at hx;obtain ⟨y, hy, rfl⟩ := List.mem_map.1 hx;have := Ad3 bs v.rep v.seq y;simp only [vid, Prod.mk.injEq] at this;rw [this.1, this.2]; exact g6 y hy
 refine List.pairwise_append.2 ⟨List.Pairwise.sublist (List.take_sublist _ _) hM, List.pairwise_cons.2 ⟨h6, List.Pairwise.sublist (List.drop_sublist _ _) hM⟩, fun a ha b hb => ?_⟩;rcases List.mem_cons.1 hb with rfl | hb
 · exact h5 a ha
 · exact P0 (h5 a ha) (h6 b hb)
theorem Tr {α : Type} {P : List α → Prop} (h0 : P []) (h1 : ∀ l a, P l → P (l ++ [a])) : ∀ l, P l := by
 have key : ∀ n, ∀ l : List α, l.length = n → P l := by
  intro n
  induction n with
  | zero => intro l hl; rw [List.eq_nil_of_length_eq_zero hl]; exact h0
  | succ n ih =>
    intro l hl;have hne : l ≠ [] := fun e => by subst e; simp at hl
    rw [← List.dropLast_concat_getLast hne];exact h1 _ _ (ih _ (by simp [hl]))
 exact fun l => key _ l rfl
theorem Aay {α : Type} {r : α → α → Prop} (ha : ∀ a b, r a b → r b a → False) : ∀ {l m : List α}, l.Pairwise r → m.Pairwise r → (∀ a, a ∈ l ↔ a ∈ m) → l = m
 | [], [], _, _, _ => rfl
 | [], y :: m, _, _, h => by have := (h y).2 List.mem_cons_self; cases this
 | x :: l, [], _, _, h => by have := (h x).1 List.mem_cons_self; cases this
 | x :: l, y :: m, hl, hm, h => by
   obtain ⟨h1, h2⟩ := List.pairwise_cons.1 hl;obtain ⟨k1, k2⟩ := List.pairwise_cons.1 hm;have ex : x = y := by
    rcases List.mem_cons.1 ((h x).1 List.mem_cons_self) with a | a
    · exact a
    · rcases List.mem_cons.1 ((h y).2 List.mem_cons_self) with b | b
      · exact b.symm
      · exact (ha _ _ (h1 y b) (k1 x a)).elim
   subst ex;congr 1;refine Aay ha h2 k2 fun a => ?_;have ne : ∀ {n : List α}, (∀ b ∈ n, r x b) → x ∉ n := fun hn hx => ha x x (hn x hx) (hn x hx);constructor
   · intro hq;rcases List.mem_cons.1 ((h a).1 (List.mem_cons_of_mem _ hq)) with e | e
     · subst e; exact absurd hq (ne h1)
     · exact e
   · intro hq;rcases List.mem_cons.1 ((h a).2 (List.mem_cons_of_mem _ hq)) with e | e
     · subst e; exact absurd hq (ne k1)
     · exact e
theorem N9 {l m : List Ent} (hl : Dv l) (hm : Dv m) (h : ∀ x, x ∈ l ↔ x ∈ m) : l = m := Aay (fun a b h k => Nk h k) hl hm h
theorem Yu {l m : List Ver} (hl : Cv l) (hm : Cv m) (h : ∀ x, x ∈ l ↔ x ∈ m) : l = m := Aay (fun a b h k => Nk (a := (a.rep, a.seq)) (b := (b.rep, b.seq)) h k) hl hm h
theorem V4 {l : List Obj} : En l ↔ l.Pairwise fun a b => Ib a.id b.id = true := by
 unfold En Dv; rw [List.pairwise_map]; exact Iff.rfl
theorem Sd {l m : List Obj} (hl : En l) (hm : En m) (h : ∀ x, x ∈ l ↔ x ∈ m) : l = m := Aay (fun a b h k => Nk h k) (V4.1 hl) (V4.1 hm) h
structure Acc (s : St) (e : Evt) : Prop where
 ck : Bm e = true
 new : Bg s.known e.rep e.seq = false
 dep : J1 e.dep s.known
 ret : s.ret (e.rep - 1).toNat = false
 why : Ub s e = 0
theorem Ow {s : St} {e : Evt} : Ff s e = 0 ↔ Acc s e := by
 unfold Ff;constructor
 · intro h;split at h
   · cases h
   · split at h
     · cases h
     · split at h
       · cases h
       · split at h
         · cases h
         · rename_i h1 h2 h3 h4;exact ⟨by simpa using h1, by simpa using h2, by simpa using h3, by simpa using h4, h⟩
 · intro ⟨h1, h2, h3, h4, h5⟩;rw [if_neg (by rw [h1]; simp), if_neg (by rw [h2]; simp), if_neg (fun q => q h3), if_neg (by rw [h4]; simp)];exact h5
inductive Val : List Evt → Prop
 | nil : Val []
 | snoc {l : List Evt} {e : Evt} : Val l → ev e → Ff (Am l) e = 0 → Val (l ++ [e])
theorem C4 (l : List Evt) : (Am l).known = Bh l := (Ae3 l l).2
theorem Ou (l : List Evt) : (Am l).ents = C3 l l := (Ae3 l l).1
theorem Val.inv {l : List Evt} {e : Evt} (h : Val (l ++ [e])) : Val l ∧ ev e ∧ Ff (Am l) e = 0 := by
 generalize hm : l ++ [e] = m at h;cases h with
 | nil => simp at hm
 | snoc a b c =>
   obtain ⟨rfl, h2⟩ := List.append_inj' hm rfl;cases h2;exact ⟨a, b, c⟩
theorem Val.pre {l m : List Evt} : Val (l ++ m) → Val l :=
 Tr (P := fun m => Val (l ++ m) → Val l) (fun h => by simpa using h) (fun m e ih h => by
  rw [← List.append_assoc] at h;exact ih h.inv.1) m
theorem Nl {a : Vc} {i : Bo} : Bg a i.1 i.2 = true ↔ 1 ≤ i.2 ∧ 1 ≤ i.1 ∧ i.1 ≤ 8 ∧ i.2 ≤ a (i.1 - 1).toNat := by
 refine ⟨Aem, fun ⟨h1, h2, h3, h4⟩ => ?_⟩;unfold Bg Ht; rw [if_pos ⟨h2, h3⟩]; exact decide_eq_true ⟨h1, h4⟩
theorem Qd {v : Vc} {r : Int} {q : Nat} (hr : 1 ≤ r ∧ r ≤ 8) (i : Nat) : A8 v r q i = if i = (r - 1).toNat then max (v i) q else v i := by
 unfold A8 E9; rw [if_pos hr]; split
 · rename_i h; rw [h]
 · rfl
theorem Uh {v : Vc} {r : Int} {q : Nat} (i : Nat) : v i ≤ A8 v r q i := by
 by_cases hr : 1 ≤ r ∧ r ≤ 8
 · rw [Qd hr]; split <;> omega
 · unfold A8; rw [if_neg hr]; exact Nat.le_refl _
theorem Xb {a b : Vc} (h : ∀ i, i < 8 → a i ≤ b i) {i : Bo} (k : Bg a i.1 i.2 = true) : Bg b i.1 i.2 = true := by
 rw [Nl] at k ⊢;have := h (i.1 - 1).toNat (by omega);omega
theorem Aff {s : St} {e : Evt} (h : Acc s e) : 1 ≤ e.rep ∧ e.rep ≤ 8 ∧ e.seq = s.known (e.rep - 1).toNat + 1 := by
 obtain ⟨b1, b2, b3, b4, b5, b6, b7⟩ := Cy h.ck;have h1 := h.dep (e.rep - 1).toNat (by omega);have h2 : ¬ Bg s.known e.rep e.seq = true := by rw [h.new]; simp
 rw [show Bg s.known e.rep e.seq = Bg s.known (Aj e).1 (Aj e).2 from rfl, Nl] at h2;simp only at h2;omega
theorem Val.known {l : List Evt} (h : Val l) : NodE l ∧ ∀ i : Bo, Bg (Bh l) i.1 i.2 = true ↔ ∃ e ∈ l, Aj e = i := by
 induction h with
 | nil => exact ⟨List.nodup_nil, fun i => by rw [Nl]; simp [Bh]; omega⟩
 | @snoc l e hl he hw ih =>
   have ha := Ow.1 hw;obtain ⟨n1, n2, n3⟩ := Aff ha;have hb := Cy ha.ck;rw [C4] at n3;have hnew : ¬ ∃ f ∈ l, Aj f = Aj e := fun q => by
    have := (ih.2 (Aj e)).2 q;have h2 := ha.new;rw [C4] at h2;rw [show Bg (Bh l) (Aj e).1 (Aj e).2 = Bg (Bh l) e.rep e.seq from rfl, h2] at this;cases this
   refine ⟨?_, fun i => ?_⟩
   · unfold NodE;rw [List.map_append, List.nodup_append];refine ⟨ih.1, by simp, fun a hm b hb q => hnew ?_⟩;obtain ⟨f, hf, rfl⟩ := List.mem_map.1 hm;simp at hb;exact ⟨f, hf, by rw [q, hb]⟩
   · rw [Io];have key : Bg (A8 (Bh l) e.rep e.seq) i.1 i.2 = true ↔ Bg (Bh l) i.1 i.2 = true ∨ i = Aj e := by
      rw [Nl, Nl, Qd ⟨n1, n2⟩];by_cases hi : i = Aj e
      · subst hi;simp only [or_true, iff_true];refine ⟨hb.2.2.1, n1, n2, ?_⟩;simp only [if_true]; exact Nat.le_max_right _ _
      · simp only [hi, or_false];by_cases hr : i.1 = e.rep
        · have hq : i.2 ≠ e.seq := fun q => hi (Prod.ext hr q);rw [hr, if_pos rfl];omega
        · constructor
          · rintro ⟨a, b, c, d⟩;rw [if_neg (by omega)] at d;exact ⟨a, b, c, d⟩
          · rintro ⟨a, b, c, d⟩;rw [if_neg (by omega)];exact ⟨a, b, c, d⟩
     rw [key, ih.2];constructor
     · rintro (⟨f, hf, q⟩ | q)
       · exact ⟨f, by simp [hf], q⟩
       · exact ⟨e, by simp, q.symm⟩
     · rintro ⟨f, hf, q⟩;rcases List.mem_append.1 hf with hf | hf
       · exact .inl ⟨f, hf, q⟩
       · rw [List.mem_singleton] at hf; subst hf; exact .inr q.symm
theorem Val.nod {l : List Evt} (h : Val l) : NodE l := h.known.1
theorem Val.has {l : List Evt} (h : Val l) {i : Bo} : Bg (Bh l) i.1 i.2 = true ↔ ∃ e ∈ l, Aj e = i := h.known.2 i
theorem Val.mem {l : List Evt} (h : Val l) {e : Evt} (he : e ∈ l) : ∃ a b, l = a ++ e :: b ∧ Val a ∧ ev e ∧ Acc (Am a) e := by
 obtain ⟨a, b, rfl⟩ := List.append_of_mem he;have h2 : Val ((a ++ [e]) ++ b) := by rw [List.append_assoc]; exact h
 obtain ⟨h3, h4, h5⟩ := h2.pre.inv;exact ⟨a, b, rfl, h3, h4, Ow.1 h5⟩
theorem Agt (l m : List Evt) : J1 (Bh l) (Bh (l ++ m)) :=
 Tr (P := fun m => J1 (Bh l) (Bh (l ++ m))) (fun i _ => by simp) (fun m e ih i hi => by
  rw [← List.append_assoc, Io];exact Nat.le_trans (ih i hi) (Uh i)) m
theorem Vf {l : List Evt} (h : Val l) {e : Evt} (ha : Acc (Am l) e) {i : Bo} (k : Bg e.dep i.1 i.2 = true) : ∃ f ∈ l, Aj f = i := by
 refine h.has.1 (Xb (fun j hj => ?_) k);have := ha.dep j hj
 rwa [C4] at this
theorem Gv {l : List Evt} (h : Val l) {e : Evt} (ha : Acc (Am l) e) : ∀ f ∈ l, Aj f ≠ Aj e := fun f hf q => by
 have h1 := h.has.2 ⟨f, hf, q⟩;have h2 := ha.new;rw [C4] at h2;rw [show Bg (Bh l) (Aj e).1 (Aj e).2 = Bg (Bh l) e.rep e.seq from rfl, h2] at h1;cases h1
theorem Ajj {e : Evt} {l : List Bo} {n : Int} (h : Eg l n e.dep = true) : ∀ b ∈ l, Bg e.dep b.1 b.2 = true := fun b hb => by
 unfold Eg G6 at h;simp only [Bool.and_eq_true, decide_eq_true_eq] at h;obtain ⟨j, hj⟩ := List.mem_iff_getElem?.1 hb;obtain ⟨hlt, hg⟩ := List.getElem?_eq_some_iff.1 hj;have := (h.2 j hlt).1;rw [hg] at this; exact this
theorem Ns {e : Evt} (h : Bm e = true) : Gk e = true ∧ Ct (Cs e) = true := by
 unfold Bm at h;simp only [Bool.and_eq_true, decide_eq_true_eq] at h;exact ⟨h.2.2.2, h.2.2.1⟩
theorem Xr {e : Evt} (h : Bm e = true) (hk : e.kind = 6 ∨ e.kind = 7) : ∀ b ∈ e.gone.l, Bg e.dep b.1 b.2 = true := by
 have hK := (Ns h).1;rcases hk with k | k
 · rw [Uz k] at hK; simp only [Bool.and_eq_true] at hK; exact Ajj hK.2
 · rw [Uy k] at hK; simp only [Bool.and_eq_true] at hK; exact Ajj hK.2.1
theorem Amz {e : Evt} (h : Bm e = true) (hk : e.kind = 3 ∨ e.kind = 4 ∨ e.kind = 5 ∨ e.kind = 6 ∨ e.kind = 7) : Bg e.dep e.orep e.oseq = true := by
 have hK := (Ns h).1;rcases hk with k | k | k | k | k
 · rw [Kf k] at hK; simp only [Bool.and_eq_true] at hK; exact hK.1
 · rw [Ok k] at hK; simp only [Bool.and_eq_true] at hK; exact hK.1
 · rw [Oj k] at hK; simp only [Bool.and_eq_true] at hK; exact hK.1
 · rw [Uz k] at hK; simp only [Bool.and_eq_true] at hK; exact hK.1
 · rw [Uy k] at hK; simp only [Bool.and_eq_true] at hK; exact hK.1
theorem Xq {e : Evt} (h : Bm e = true) (hk : ¬ (e.kind = 3 ∨ e.kind = 4 ∨ e.kind = 5 ∨ e.kind = 6 ∨ e.kind = 7)) : Az e = (0, 0) := by
 obtain ⟨b1, b2, b3, b4, b5, b6, b7⟩ := Cy h;have hz := (Ns h).2;have h4 : e.kind = 1 ∨ e.kind = 2 ∨ e.kind = 8 ∨ e.kind = 9 := by omega
 have hz' : Cj e.orep e.oseq = true := by
  rcases h4 with k | k | k | k
  · rw [Aun k] at hz; simp only [An, Bool.and_eq_true, Bool.or_eq_true, Bool.false_eq_true, false_or] at hz; exact hz.1
  · rw [Az7 k] at hz; simp only [An, Bool.and_eq_true, Bool.or_eq_true, Bool.false_eq_true, false_or] at hz; exact hz.1
  · rw [Az6 k] at hz; simp only [An, Bool.and_eq_true, Bool.or_eq_true, Bool.false_eq_true, false_or] at hz; exact hz.1
  · rw [Az5 k] at hz; simp only [An, Bool.and_eq_true, Bool.or_eq_true, Bool.false_eq_true, false_or] at hz; exact hz.1
 obtain ⟨h1, h2⟩ := of_decide_eq_true hz';exact Prod.ext h1 h2
theorem Awl {l : List Evt} {e : Evt} (h : Val l) (ha : Acc (Am l) e) (obj : Bo) {g : Evt} (hg : g ∈ l ++ [e]) : Hw g obj (Aj e) = false := by
 cases hq : Hw g obj (Aj e) with
 | false => rfl
 | true =>
   unfold Hw at hq;simp only [Bool.and_eq_true, decide_eq_true_eq] at hq;rcases List.mem_append.1 hg with hg | hg
   · obtain ⟨a, b, rfl, h1, _, h3⟩ := h.mem hg;obtain ⟨f, hf, hi⟩ := Vf h1 h3 (Xr h3.ck hq.1 _ hq.2.2);exact absurd hi (Gv h ha f (by simp [hf]))
   · rw [List.mem_singleton] at hg; subst hg;obtain ⟨f, hf, hi⟩ := Vf h ha (Xr ha.ck hq.1 _ hq.2.2);exact absurd hi (Gv h ha f hf)
theorem Aqr {l : List Evt} {e : Evt} (h : Val l) (ha : Acc (Am l) e) {g : Evt} (hg : g ∈ l ++ [e]) : Az g ≠ Aj e := fun q => by
 have base := Cy ha.ck;have hne : ∀ {g : Evt}, Bm g = true → Az g = Aj e → Bg g.dep g.orep g.oseq = true := fun {g} hc q => by
  refine Amz hc (Classical.byContradiction fun hk => ?_);have := Xq hc hk;rw [this] at q;have q1 : (0 : Int) = e.rep := congrArg Prod.fst q;have := base.1;omega
 rcases List.mem_append.1 hg with hg | hg
 · obtain ⟨a, b, rfl, h1, _, h3⟩ := h.mem hg;obtain ⟨f, hf, hi⟩ := Vf h1 h3 (i := Az g) (hne h3.ck q);rw [q] at hi;exact absurd hi (Gv h ha f (by simp [hf]))
 · rw [List.mem_singleton] at hg; subst hg;obtain ⟨f, hf, hi⟩ := Vf h ha (i := Az g) (hne ha.ck q);rw [q] at hi;exact absurd hi (Gv h ha f hf)
theorem Su {l : List Evt} : ∀ m : List Evt, NodE m → Dv (C3 l m) ∧ ∀ x, x ∈ C3 l m ↔ ∃ e ∈ m, mkB e = true ∧ x = Db l e := by
 refine Tr (fun _ => ⟨List.Pairwise.nil, by simp [C3]⟩) fun m e ih hn => ?_;have hn' : NodE m := by unfold NodE at *; rw [List.map_append] at hn; exact hn.sublist (List.sublist_append_left _ _)
 obtain ⟨h1, h2⟩ := ih hn';have grow : ∀ x : Ent, (∃ f ∈ m ++ [e], mkB f = true ∧ x = Db l f) ↔ (∃ f ∈ m, mkB f = true ∧ x = Db l f) ∨ (mkB e = true ∧ x = Db l e) := fun o => by
  simp only [List.mem_append, List.mem_singleton];constructor
  · rintro ⟨f, hf | rfl, h⟩
    · exact .inl ⟨f, hf, h⟩
    · exact .inr h
  · rintro (⟨f, hf, h⟩ | h)
    · exact ⟨f, .inl hf, h⟩
    · exact ⟨e, .inr rfl, h⟩
 rw [P4];by_cases hm : mkB e = true
 · rw [if_pos hm, Yx h1];have hnew : Hr (C3 l m) (Db l e).id = none := Gc.2 fun x hx q => by
    obtain ⟨f, hf, _, rfl⟩ := (h2 x).1 hx;unfold NodE at hn;rw [List.map_append, List.nodup_append] at hn;exact hn.2.2 (Aj f) (List.mem_map_of_mem hf) (Aj e) (by simp) q
   have e1 : Agb (C3 l m) (Db l e) = O2 (C3 l m) (Db l e) := by
    unfold Agb; rw [if_neg (by rw [Aji.2 hnew]; simp)]
   rw [e1];refine ⟨V2 h1 hnew, fun x => ?_⟩;rw [Abf, h2, grow];exact ⟨fun q => q.elim (fun q => .inr ⟨hm, q⟩) .inl, fun q => q.elim .inr fun q => .inl q.2⟩
 · rw [if_neg hm];refine ⟨h1, fun x => ?_⟩;rw [h2, grow];exact ⟨.inl, fun q => q.resolve_right fun q => hm q.1⟩
theorem Agx (b : Bo) (x : Ent) : Ni b (Ni b x) = Ni b x := by
 unfold Ni; simp only [Acm, Afm]
theorem Zk (e : Evt) : ∀ (m l : List Ent), Fo e l m = l.map fun x => if m.any (fun y => decide (y.id = x.id) && Ey e y) = true then Ni (Aj e) x else x
 | [], l => by simp [Fo]
 | y :: m, l => by
   have ih := Zk e m (if Ey e y = true then killL l y.id (Aj e) else l);unfold Fo at ih ⊢;simp only [List.foldl_cons];rw [ih];split
   · rename_i hg;unfold killL Ue;rw [List.map_map];refine List.map_congr_left fun x hx => ?_;simp only [Function.comp];by_cases hy : x.id = y.id
     · simp only [if_pos hy];have e2 : List.any (y :: m) (fun z => decide (z.id = x.id) && Ey e z) = true := by simp [hy, hg]
       rw [if_pos e2];split
       · exact Agx _ _
       · rfl
     · simp only [if_neg hy];have e2 : List.any (y :: m) (fun z => decide (z.id = x.id) && Ey e z) = List.any m (fun z => decide (z.id = x.id) && Ey e z) := by
        rw [List.any_cons, decide_eq_false (fun q : y.id = x.id => hy q.symm), Bool.false_and, Bool.false_or]
       rw [e2]
   · rename_i hg;refine List.map_congr_left fun x hx => ?_;have e2 : List.any (y :: m) (fun z => decide (z.id = x.id) && Ey e z) = List.any m (fun z => decide (z.id = x.id) && Ey e z) := by
      simp [show Ey e y = false by simpa using hg]
     rw [e2]
theorem Ar3 {e : Evt} {l : List Ent} (hs : Dv l) : Fo e l l = l.map fun x => if Ey e x = true then Ni (Aj e) x else x := by
 rw [Zk];refine List.map_congr_left fun x hx => ?_;have : l.any (fun y => decide (y.id = x.id) && Ey e y) = Ey e x := by
  rw [Bool.eq_iff_iff, List.any_eq_true];constructor
  · rintro ⟨y, hy, h⟩;simp only [Bool.and_eq_true, decide_eq_true_eq] at h;have h1 := Ad5 hs hy;have h2 := Ad5 hs hx;rw [h.1] at h1;rw [h1] at h2; cases h2;exact h.2
  · exact fun h => ⟨x, hx, by simp [h]⟩
 rw [this]
theorem Ayv {l : List Evt} {e : Evt} (h : Val l) (ha : Acc (Am l) e) (obj : Bo) : byG (l ++ [e]) obj (Aj e) = fun _ => 0 := by
 unfold byG;have : ∀ m : List Evt, (∀ g ∈ m, Hw g obj (Aj e) = false) → m.foldl (fun g f => if Hw f obj (Aj e) = true then A8 g f.rep f.seq else g) (fun _ => 0 : Vc) = fun _ => 0 := fun m hm => by
  induction m with
  | nil => rfl
  | cons g m ih =>
    rw [List.foldl_cons, if_neg (by rw [hm g List.mem_cons_self]; simp)];exact ih fun f hf => hm f (List.mem_cons_of_mem _ hf)
 exact this _ fun g hg => Awl h ha obj hg
theorem Ast {l : List Evt} {e : Evt} (h : Val l) (ha : Acc (Am l) e) : Db (l ++ [e]) e = Gl e (E0 e) := by
 unfold Db Gl; rw [Ayv h ha]
theorem Xj (l : List Evt) (e f : Evt) : Db (l ++ [e]) f = if Hw e (E0 f) (Aj f) = true then Ni (Aj e) (Db l f) else Db l f := by
 unfold Db;rw [Rs];split
 · unfold Ni; simp only;rw [show A8 (byG l (E0 f) (Aj f)) e.rep e.seq = A8 (byG l (E0 f) (Aj f)) (Aj e).1 (Aj e).2 from rfl, Ack]
 · rfl
theorem Xd (l : List Evt) (e f : Evt) (hk : e.kind = 6 ∨ e.kind = 7) : Hw e (E0 f) (Aj f) = Ey e (Db l f) := by
 unfold Hw Ey Db;simp only [hk, decide_true, Bool.true_and];congr 1;exact decide_eq_decide.2 ⟨Eq.symm, Eq.symm⟩
theorem Amn {l : List Evt} {e : Evt} (h : Val l) (ha : Acc (Am l) e) :
 C3 (l ++ [e]) (l ++ [e]) = if e.kind = 1 ∨ e.kind = 2 then Ru (C3 l l) (Gl e (Aj e)) else if e.kind = 7 then Ru (Fo e (C3 l l) (C3 l l)) (Gl e (Az e)) else if e.kind = 6 then Fo e (C3 l l) (C3 l l) else C3 l l := by
 have hn := h.nod;have hn2 : NodE (l ++ [e]) := by
  unfold NodE;rw [List.map_append, List.nodup_append];refine ⟨hn, by simp, fun a hm b hb q => ?_⟩;obtain ⟨f, hf, rfl⟩ := List.mem_map.1 hm;simp at hb;exact Gv h ha f hf (by rw [q, hb])
 obtain ⟨s1, m1⟩ := Su (l := l) l hn;obtain ⟨s2, m2⟩ := Su (l := l ++ [e]) (l ++ [e]) hn2;have hlook : ∀ {m : List Ent}, (∀ x ∈ m, ∃ f ∈ l, x.id = Aj f) → Hr m (Aj e) = none := fun hm => Gc.2 fun x hx q => by
  obtain ⟨f, hf, hi⟩ := hm x hx;exact Gv h ha f hf (by rw [← hi, q])
 have hadd : ∀ {m : List Ent} {o : Bo}, Dv m → (∀ x ∈ m, ∃ f ∈ l, x.id = Aj f) → Dv (Ru m (Gl e o)) ∧ ∀ x, x ∈ Ru m (Gl e o) ↔ x = Gl e o ∨ x ∈ m := fun {m o} hs hm => by
  have hl := hlook hm;have e1 : Ru m (Gl e o) = O2 m (Gl e o) := by unfold Ru; rw [if_neg (by rw [show Q6 m (Gl e o).id = false from Aji.2 hl]; simp)]
  rw [e1];exact ⟨V2 hs hl, fun x => Abf⟩
 have hold : ∀ x ∈ C3 l l, ∃ f ∈ l, x.id = Aj f := fun x hx => by
  obtain ⟨f, hf, _, rfl⟩ := (m1 x).1 hx; exact ⟨f, hf, rfl⟩
 have hgone := L9 (e := e) s1 (C3 l l);have hgeq := Ar3 (e := e) s1;have hgold : ∀ x ∈ Fo e (C3 l l) (C3 l l), ∃ f ∈ l, x.id = Aj f := fun x hx => by
  rw [hgeq] at hx;obtain ⟨y, hy, rfl⟩ := List.mem_map.1 hx;obtain ⟨f, hf, hi⟩ := hold y hy;refine ⟨f, hf, ?_⟩;split <;> exact hi
 have mG : (e.kind = 6 ∨ e.kind = 7) → ∀ x, x ∈ Fo e (C3 l l) (C3 l l) ↔ ∃ f ∈ l, mkB f = true ∧ x = Db (l ++ [e]) f := fun hk x => by
  rw [hgeq, List.mem_map];constructor
  · rintro ⟨y, hy, rfl⟩;obtain ⟨f, hf, hm, rfl⟩ := (m1 y).1 hy;exact ⟨f, hf, hm, by rw [Xj, Xd l e f hk]⟩
  · rintro ⟨f, hf, hm, rfl⟩;exact ⟨Db l f, (m1 _).2 ⟨f, hf, hm, rfl⟩, by rw [Xj, Xd l e f hk]⟩
 have mN : ¬ (e.kind = 6 ∨ e.kind = 7) → ∀ x, x ∈ C3 l l ↔ ∃ f ∈ l, mkB f = true ∧ x = Db (l ++ [e]) f := fun hk x => by
  rw [m1];have : ∀ f, Db (l ++ [e]) f = Db l f := fun f => by
   rw [Xj, if_neg (by unfold Hw; simp [hk])]
  exact ⟨fun ⟨f, a, b, c⟩ => ⟨f, a, b, by rw [this, c]⟩, fun ⟨f, a, b, c⟩ => ⟨f, a, b, by rw [← this, c]⟩⟩
 have grow : ∀ x : Ent, (∃ f ∈ l ++ [e], mkB f = true ∧ x = Db (l ++ [e]) f) ↔ (mkB e = true ∧ x = Gl e (E0 e)) ∨ (∃ f ∈ l, mkB f = true ∧ x = Db (l ++ [e]) f) := fun x => by
  rw [← Ast h ha];simp only [List.mem_append, List.mem_singleton];constructor
  · rintro ⟨f, hf | rfl, h⟩
    · exact .inr ⟨f, hf, h⟩
    · exact .inl h
  · rintro (h | ⟨f, hf, h⟩)
    · exact ⟨e, .inr rfl, h⟩
    · exact ⟨f, .inl hf, h⟩
 by_cases h12 : e.kind = 1 ∨ e.kind = 2
 · rw [if_pos h12];have hm : mkB e = true := decide_eq_true (by omega);have ho : E0 e = Aj e := if_neg (by omega);obtain ⟨a1, a2⟩ := hadd (o := Aj e) s1 hold;refine N9 s2 a1 fun x => ?_;rw [m2, grow, a2, mN (by omega), ho];simp [hm]
 rw [if_neg h12];by_cases h7 : e.kind = 7
 · rw [if_pos h7];have hm : mkB e = true := decide_eq_true (by omega);have ho : E0 e = Az e := if_pos h7;obtain ⟨a1, a2⟩ := hadd (o := Az e) hgone hgold;refine N9 s2 a1 fun x => ?_;rw [m2, grow, a2, mG (.inr h7), ho];simp [hm]
 rw [if_neg h7];have hm : mkB e = false := decide_eq_false (by omega);by_cases h6 : e.kind = 6
 · rw [if_pos h6];refine N9 s2 hgone fun x => ?_;rw [m2, grow, mG (.inl h6)];simp [hm]
 · rw [if_neg h6];refine N9 s2 s1 fun x => ?_;rw [m2, grow, mN (by omega)];simp [hm]
theorem N4 {l : List Evt} {e : Evt} (h : Val l) (ha : Acc (Am l) e) : NodE (l ++ [e]) := by
 unfold NodE;rw [List.map_append, List.nodup_append];refine ⟨h.nod, by simp, fun a hm b hb q => ?_⟩;obtain ⟨f, hf, rfl⟩ := List.mem_map.1 hm;simp at hb;exact Gv h ha f hf (by rw [q, hb])
theorem Zp {l : List Evt} (hn : NodE l) {e : Evt} (he : e ∈ l) : Iq l (Aj e) = some e := by
 unfold Iq
 induction l with
 | nil => cases he
 | cons f l ih =>
   unfold NodE at hn;rw [List.map_cons, List.nodup_cons] at hn;rw [List.find?_cons];rcases List.mem_cons.1 he with rfl | he
   · simp
   · have : Aj f ≠ Aj e := fun q => hn.1 (q ▸ List.mem_map_of_mem he);rw [decide_eq_false this];exact ih hn.2 he
theorem Amk {l : List Evt} {i : Bo} (t : List Evt) (h : ∃ f ∈ l, Aj f = i) : Iq (l ++ t) i = Iq l i := by
 obtain ⟨f, hf, hi⟩ := h;unfold Iq;rw [List.find?_append];cases hq : List.find? (fun e => decide (Aj e = i)) l with
 | some x => rfl
 | none => exact absurd hi (by simpa using List.find?_eq_none.1 hq f hf)
theorem Ss (l : List Evt) (e : Evt) : ∀ m : List Evt, (C9 l m e).vers = C0 l (Aj e) l :=
 Tr rfl fun m f ih => by
  rw [Jj];unfold D6;split
  · split
    · split <;> exact ih
    · split <;> exact ih
  · exact ih
theorem Qw {l : List Evt} (hn : NodE l) : En (Am l).objs ∧ (Am l).objs.length ≤ l.length ∧ ∀ o, o ∈ (Am l).objs ↔ ∃ e ∈ l, (e.kind = 1 ∨ e.kind = 2) ∧ o = C9 l l e := Rt l.length l rfl hn
theorem Agm {l : List Obj} {i : Bo} {o : Obj} (h : Fc l i = some o) : o ∈ l ∧ o.id = i := ⟨List.mem_of_getElem? (Gz h).1, (Gz h).2⟩
theorem Rw {l : List Evt} {e : Evt} (h : Val l) (ha : Acc (Am l) e) (hk : e.kind = 3 ∨ e.kind = 4 ∨ e.kind = 5 ∨ e.kind = 6 ∨ e.kind = 7) : ∃ f ∈ l, (f.kind = 1 ∨ f.kind = 2) ∧ Aj f = Az e ∧ Fc (Am l).objs (Az e) = some (C9 l l f) ∧ (Ph e = true → (C9 l l f).dir = false ∧ ¬ Dj (C0 l (Az e) l) e.base.l) := by
 have hw := ha.why;unfold Ub at hw;rw [if_neg (by omega), if_neg (by omega)] at hw;cases ho : Fc (Am l).objs (Az e) with
 | none => rw [ho] at hw; cases hw
 | some o =>
   rw [ho] at hw;obtain ⟨h1, h2⟩ := Agm ho;obtain ⟨f, hf, hk12, rfl⟩ := ((Qw h.nod).2.2 o).1 h1;have h2' : Aj f = Az e := by rw [← Jb l f l]; exact h2
   refine ⟨f, hf, hk12, h2', rfl, fun hwr => ?_⟩;have hk3 := of_decide_eq_true hwr;simp only at hw;rw [if_neg (by omega), if_neg (by omega)] at hw;split at hw
   · cases hw
   · split at hw
     · cases hw
     · rename_i hd hm;rw [Ss, h2'] at hm;exact ⟨by simpa using hd, hm⟩
theorem Jy {l : List Evt} {e : Evt} (h : Val l) (ha : Acc (Am l) e) (hw : Ph e = true) : ∀ b ∈ e.base.l, ∃ v, Br (C0 l (Az e) l) b.1 b.2 = some v ∧ ∃ g ∈ l, Ph g = true ∧ Az g = Az e ∧ Aj g = b ∧ v = Gx l l g := fun b hb => by
 have hk3 := of_decide_eq_true hw;obtain ⟨f, hf, hk, hi, ho, hm⟩ := Rw h ha (by omega);obtain ⟨_, hm⟩ := hm hw;cases hv : Br (C0 l (Az e) l) b.1 b.2 with
 | none => exact absurd ⟨b, hb, hv⟩ hm
 | some v =>
   obtain ⟨h1, h2⟩ := Zo hv;obtain ⟨g, hg, ⟨hw, ho⟩, rfl⟩ := (N3 l.length l rfl).1 h1;exact ⟨_, rfl, g, hg, hw, ho, Prod.ext h2.1 h2.2, rfl⟩
noncomputable def Aaa (l : List Evt) (e : Evt) : List UInt8 := match e.base.l with
 | [] => []
 | b :: _ => Df l l.length b
theorem Xt {e : Evt} (h : Bm e = true) (hw : Ph e = true) : e.data.length ≤ 200 := by
 have hK := Ns h;have hk := of_decide_eq_true hw;rcases hk with k | k | k
 · have h1 := hK.1;rw [Kf k] at h1;simp only [Bool.and_eq_true, Cw, decide_eq_true_eq] at h1;omega
 · have h1 := hK.2;rw [A5c k] at h1;simp only [An, Bool.and_eq_true, Bool.or_eq_true, decide_eq_true_eq, Bool.false_eq_true, false_or, true_or] at h1;have : e.data = [] := h1.2.2.2.2.2.1;rw [this]; simp
 · have h1 := hK.1;rw [Oj k] at h1;simp only [Bool.and_eq_true, Cw, decide_eq_true_eq] at h1;omega
theorem Akc {e : Evt} (h : Bm e = true) (hw : Ph e = true) {was : List UInt8} (hl : was.length ≤ 200) : (Gm e was).length ≤ 200 := by
 have hd := Xt h hw;unfold Gm;split
 · exact hd
 · split
   · unfold Yg; split
     · simp
     · rw [Aew]; omega
   · unfold Ks; split
     · simp
     · rename_i h; unfold D7 at h; rw [Wj]; omega
theorem N5 {l : List Evt} (h : Val l) : ∀ g ∈ l, Ph g = true → (Df l l.length (Aj g)).length ≤ 200 ∧ ∀ t n, l.length ≤ n → Df (l ++ t) n (Aj g) = Df l l.length (Aj g) := by
 induction h with
 | nil => intro g hg; cases hg
 | @snoc l e hl he hw ih =>
   have ha := Ow.1 hw;intro g hg hgw;have hlen : (l ++ [e]).length = l.length + 1 := by simp
   rcases List.mem_append.1 hg with hg | hg
   · obtain ⟨h1, h2⟩ := ih g hg hgw;have e1 : Df (l ++ [e]) (l ++ [e]).length (Aj g) = Df l l.length (Aj g) := h2 [e] _ (by omega);rw [e1];refine ⟨h1, fun t n hn => ?_⟩;rw [List.append_assoc];exact h2 _ n (by omega)
   · rw [List.mem_singleton] at hg; subst hg;have key : ∀ t n, (l ++ [g]).length ≤ n → Df ((l ++ [g]) ++ t) n (Aj g) = Gm g (Aaa l g) := fun t n hn => by
      obtain ⟨n, rfl⟩ : ∃ k, n = k + 1 := ⟨n - 1, by omega⟩
      simp only [Df];rw [Amk t ⟨g, by simp, rfl⟩, Zp (N4 hl ha) (by simp)];simp only;congr 1;unfold Aaa;cases hb : g.base.l with
      | nil => rfl
      | cons b r =>
        simp only;obtain ⟨v, hv, f, hf, hfw, _, rfl, _⟩ := Jy hl ha hgw b (by rw [hb]; simp);rw [List.append_assoc];exact (ih f hf hfw).2 _ n (by omega)
     have e1 : Df (l ++ [g]) (l ++ [g]).length (Aj g) = Gm g (Aaa l g) := by
      have := key [] (l ++ [g]).length (Nat.le_refl _)
      rwa [List.append_nil] at this
     rw [e1];refine ⟨Akc ha.ck hgw ?_, key⟩;unfold Aaa;cases hb : g.base.l with
     | nil => simp
     | cons b r =>
       simp only;obtain ⟨v, hv, f, hf, hfw, _, rfl, _⟩ := Jy hl ha hgw b (by rw [hb]; simp);exact (ih f hf hfw).1
theorem Am4 {l : List Evt} {e : Evt} (h : Val l) (ha : Acc (Am l) e) (hw : Ph e = true) : Df (l ++ [e]) (l ++ [e]).length (Aj e) = Gm e (Aaa l e) := by
 rw [show (l ++ [e]).length = l.length + 1 from by simp];simp only [Df];rw [Zp (N4 h ha) (by simp)];simp only;congr 1;unfold Aaa;cases hb : e.base.l with
 | nil => rfl
 | cons b r =>
   simp only;obtain ⟨v, hv, f, hf, hfw, _, rfl, _⟩ := Jy h ha hw b (by rw [hb]; simp);exact (N5 h f hf hfw).2 _ _ (Nat.le_refl _)
theorem Acl {l : List Evt} {e : Evt} (h : Val l) {g : Evt} (hg : g ∈ l) (hw : Ph g = true) : Gx (l ++ [e]) (l ++ [e]) g = if Zi e (Az g) (Aj g) = true then Ev (Gx l l g) e.rep e.seq else Gx l l g := by
 have hb := (N5 h g hg hw).2 [e] (l ++ [e]).length (by simp);unfold Gx;rw [hb, Aen];split <;> rfl
theorem Awm {l : List Evt} {e : Evt} (h : Val l) (ha : Acc (Am l) e) (obj : Bo) {g : Evt} (hg : g ∈ l ++ [e]) : Zi g obj (Aj e) = false := by
 cases hq : Zi g obj (Aj e) with
 | false => rfl
 | true =>
   unfold Zi at hq;simp only [Bool.and_eq_true, decide_eq_true_eq] at hq;rcases List.mem_append.1 hg with hg | hg
   · obtain ⟨a, b, rfl, h1, _, h3⟩ := h.mem hg;obtain ⟨_, _, f, hf, _, _, hi, _⟩ := Jy h1 h3 hq.1 _ hq.2.2;exact absurd hi (Gv h ha f (by simp [hf]))
   · rw [List.mem_singleton] at hg; subst hg;obtain ⟨_, _, f, hf, _, _, hi, _⟩ := Jy h ha hq.1 _ hq.2.2;exact absurd hi (Gv h ha f hf)
theorem Axs {l : List Evt} {e : Evt} (h : Val l) (ha : Acc (Am l) e) (obj : Bo) : gvG (l ++ [e]) obj (Aj e) = fun _ => 0 := by
 unfold gvG;have : ∀ m : List Evt, (∀ g ∈ m, Zi g obj (Aj e) = false) → m.foldl (fun a g => if Zi g obj (Aj e) = true then A8 a g.rep g.seq else a) (fun _ => 0 : Vc) = fun _ => 0 := fun m hm => by
  induction m with
  | nil => rfl
  | cons g m ih =>
    rw [List.foldl_cons, if_neg (by rw [hm g List.mem_cons_self]; simp)];exact ih fun f hf => hm f (List.mem_cons_of_mem _ hf)
 exact this _ fun g hg => Awm h ha obj hg
theorem Gp {l : List Evt} (h : NodE l) (obj : Bo) : Cv (C0 l obj l) ∧ (C0 l obj l).length ≤ l.length ∧ ∀ v, v ∈ C0 l obj l ↔ ∃ e ∈ l, (Ph e = true ∧ Az e = obj) ∧ v = Gx l l e := ⟨(I7 l.length l rfl h).1, (I7 l.length l rfl h).2, fun v => N3 l.length l rfl⟩
theorem N2 {l : List Evt} {e : Evt} (h : Val l) (ha : Acc (Am l) e) {obj : Bo} (hx : ¬ (Ph e = true ∧ Az e = obj)) : C0 (l ++ [e]) obj (l ++ [e]) = C0 l obj l := by
 obtain ⟨s1, _, m1⟩ := Gp h.nod obj;obtain ⟨s2, _, m2⟩ := Gp (N4 h ha) obj;refine Yu s2 s1 fun v => ?_;have key : ∀ g ∈ l, Ph g = true ∧ Az g = obj → Gx (l ++ [e]) (l ++ [e]) g = Gx l l g := fun g hg ⟨hw, ho⟩ => by
  rw [Acl h hg hw, if_neg];unfold Zi;rw [ho];simp only [Bool.and_eq_true, decide_eq_true_eq];exact fun q => hx ⟨q.1, q.2.1⟩
 rw [m1, m2];constructor
 · rintro ⟨g, hg, hc, rfl⟩;rcases List.mem_append.1 hg with hg | hg
   · exact ⟨g, hg, hc, key g hg hc⟩
   · rw [List.mem_singleton] at hg; subst hg; exact absurd hc hx
 · rintro ⟨g, hg, hc, rfl⟩;exact ⟨g, List.mem_append_left _ hg, hc, (key g hg hc).symm⟩
theorem Am6 {l : List Evt} {e : Evt} (h : Val l) (ha : Acc (Am l) e) (hw : Ph e = true) : Fi (C0 l (Az e) l) e = Gm e (Aaa l e) := by
 have hd : ∀ v ∈ C0 l (Az e) l, v.data.length ≤ 200 := fun v hv => by
  obtain ⟨g, hg, hc, rfl⟩ := ((Gp h.nod (Az e)).2.2 v).1 hv;exact (N5 h g hg hc.1).1
 have hk := of_decide_eq_true hw;have hf := Xs ha.ck hk hd;have hwas : (D2 (C0 l (Az e) l) (Em e).1 (Em e).2).1 = Aaa l e := by
  unfold Em Aaa;cases hb : e.base.l with
  | nil => simp only; rw [Rn ⟨rfl, rfl⟩]
  | cons b r =>
    simp only;obtain ⟨v, hv, f, hf, hfw, _, rfl, rfl⟩ := Jy h ha hw b (by rw [hb]; simp);obtain ⟨a, c, _, _, _, h3⟩ := h.mem hf;have hbp := Cy h3.ck;have hbp1 : 1 ≤ f.rep := hbp.1;rw [Mf (fun q => by have := q.1; simp only at this; omega) hv];rfl
 have hwl : (D2 (C0 l (Az e) l) (Em e).1 (Em e).2).1.length ≤ 200 := Zs hd _ _;unfold Fi Gm;rw [hwas] at hwl ⊢;by_cases h5 : e.kind = 5
 · rw [if_pos h5, if_pos h5]
 rw [if_neg h5, if_neg h5];obtain ⟨o1, o2⟩ := hf.off h5;by_cases h4 : e.kind = 4
 · rw [if_pos h4, if_pos h4];unfold Yg; rw [if_neg (by omega)]
 · rw [if_neg h4, if_neg h4];have hl := hf.len (by omega);unfold Ks; rw [if_neg (by unfold D7; omega)]
theorem An4 {l : List Evt} {e : Evt} (h : Val l) (ha : Acc (Am l) e) (hw : Ph e = true) : C0 (l ++ [e]) (Az e) (l ++ [e]) = Fp (C0 l (Az e) l) e.base.l (R6 e.rep e.seq (Fi (C0 l (Az e) l) e)) := by
 obtain ⟨s1, _, m1⟩ := Gp h.nod (Az e);obtain ⟨s2, _, m2⟩ := Gp (N4 h ha) (Az e);have hnew : Br (C0 l (Az e) l) e.rep e.seq = none := P1.2 fun v hv ⟨h1, h2⟩ => by
  obtain ⟨g, hg, _, rfl⟩ := (m1 v).1 hv;exact Gv h ha g hg (Prod.ext h1 h2)
 have hE : Gx (l ++ [e]) (l ++ [e]) e = R6 e.rep e.seq (Fi (C0 l (Az e) l) e) := by
  unfold Gx R6;rw [Am4 h ha hw, Axs h ha, Am6 h ha hw]
 refine Yu s2 (Afe s1 hnew) fun v => ?_;rw [m2, Aq3, ← hE];have key : ∀ g ∈ l, Ph g = true ∧ Az g = Az e → Gx (l ++ [e]) (l ++ [e]) g = Pa e.base.l e.rep e.seq (Gx l l g) := fun g hg ⟨hgw, ho⟩ => by
  rw [Acl h hg hgw];unfold Pa;have : Zi e (Az g) (Aj g) = decide (((Gx l l g).rep, (Gx l l g).seq) ∈ e.base.l) := by
   unfold Zi;rw [hw, ho];simp; rfl
  rw [this];by_cases hin : ((Gx l l g).rep, (Gx l l g).seq) ∈ e.base.l
  · rw [if_pos (decide_eq_true hin), if_pos hin]
  · rw [if_neg (by simpa using hin), if_neg hin]
 constructor
 · rintro ⟨g, hg, hc, rfl⟩;rcases List.mem_append.1 hg with hg | hg
   · exact .inr ⟨Gx l l g, (m1 _).2 ⟨g, hg, hc, rfl⟩, key g hg hc⟩
   · rw [List.mem_singleton] at hg; subst hg; exact .inl rfl
 · rintro (rfl | ⟨y, hy, rfl⟩)
   · exact ⟨e, by simp, ⟨hw, rfl⟩, rfl⟩
   · obtain ⟨g, hg, hc, rfl⟩ := (m1 y).1 hy;exact ⟨g, List.mem_append_left _ hg, hc, (key g hg hc).symm⟩
theorem Afs (e f : Evt) (o : Obj) (v : List Ver) : D6 e { o with vers := v } f = { D6 e o f with vers := v } := by
 unfold D6;by_cases h1 : Az f = Aj e
 · rw [if_pos h1, if_pos h1];by_cases h7 : f.kind = 7
   · rw [if_pos h7, if_pos h7];by_cases hl : Cp o.last.1 o.last.2 f.rep f.seq = true
     · rw [if_pos hl, if_pos hl]
     · rw [if_neg hl, if_neg hl]
   · rw [if_neg h7, if_neg h7];by_cases h6 : f.kind = 6
     · rw [if_pos h6, if_pos h6]
     · rw [if_neg h6, if_neg h6]
 · rw [if_neg h1, if_neg h1]
theorem Awh (l L : List Evt) (e : Evt) : ∀ m : List Evt, C9 L m e = { C9 l m e with vers := C0 L (Aj e) L } :=
 Tr rfl fun m f ih => by
  rw [Jj, Jj, ih, Afs]
theorem Aqk (l : List Evt) (e f : Evt) : C9 (l ++ [e]) (l ++ [e]) f = { D6 f (C9 l l f) e with vers := C0 (l ++ [e]) (Aj f) (l ++ [e]) } := by
 rw [Awh l, Jj]
theorem Ady {l : List Evt} {e : Evt} (h : Val l) (ha : Acc (Am l) e) : C9 (l ++ [e]) (l ++ [e]) e = Wv e := by
 have hv : C0 (l ++ [e]) (Aj e) (l ++ [e]) = [] := by
  refine List.eq_nil_iff_forall_not_mem.2 fun v hv => ?_;obtain ⟨g, hg, hc, _⟩ := ((Gp (N4 h ha) (Aj e)).2.2 v).1 hv;exact Aqr h ha hg hc.2
 unfold C9 Wv;rw [hv];have : ∀ (m : List Evt) (o : Obj), (∀ g ∈ m, Az g ≠ Aj e) → m.foldl (D6 e) o = o := fun m => by
  induction m with
  | nil => intro o _; rfl
  | cons g m ih =>
    intro o hm;rw [List.foldl_cons, show D6 e o g = o from if_neg (hm g List.mem_cons_self)];exact ih o fun f hf => hm f (List.mem_cons_of_mem _ hf)
 exact this _ _ fun g hg => Aqr h ha hg
def GO (e : Evt) (x : Obj) : Obj :=
 if e.kind = 7 then Wx e x
 else if e.kind = 6 then { x with seen := C1 x.seen (A8 e.dep e.rep e.seq) }
 else { x with vers := Fp x.vers e.base.l (R6 e.rep e.seq (Fi x.vers e)) }
theorem Aqy (e : Evt) (x : Obj) : (Wx e x).id = x.id := by unfold Wx; split <;> rfl
theorem A9w (e : Evt) (x : Obj) : (GO e x).id = x.id := by
 unfold GO;split
 · exact Aqy e x
 · split <;> rfl
theorem Ao5 {l : List Obj} (hs : En l) {i : Bo} {o : Obj} (h : Fc l i = some o) (g : Obj → Obj) : l.set (Cc l i) (g o) = l.map fun x => if x.id = i then g x else x := by
 obtain ⟨h1, h2⟩ := Gz h;apply List.ext_getElem?;intro j;rw [List.getElem?_map];by_cases hj : Cc l i = j
 · subst hj;rw [List.getElem?_set_self (List.getElem?_eq_some_iff.1 h1).1, h1];simp only [Option.map_some];rw [if_pos h2]
 · rw [List.getElem?_set_ne hj];cases hy : l[j]? with
   | none => rfl
   | some y =>
     simp only [Option.map_some];rw [if_neg];intro q;rcases Nat.lt_or_gt_of_ne hj with k | k
     · have := K2 hs h1 hy k; rw [h2, q] at this; exact Gf this
     · have := K2 hs hy h1 k; rw [h2, q] at this; exact Gf this
theorem Ayd {s : St} (hs : En s.objs) {e : Evt} (hk : e.kind = 3 ∨ e.kind = 4 ∨ e.kind = 5 ∨ e.kind = 6 ∨ e.kind = 7) {o : Obj} (h : Fc s.objs (Az e) = some o) : (doS s e).objs = s.objs.map fun x => if x.id = Az e then GO e x else x := by
 unfold doS;rw [if_neg (by omega), if_neg (by omega), if_neg (by omega), h, ← Ao5 hs h (GO e)];simp only;unfold GO;by_cases h7 : e.kind = 7
 · rw [if_pos h7, if_pos h7]; rfl
 rw [if_neg h7, if_neg h7];by_cases h6 : e.kind = 6
 · rw [if_pos h6, if_pos h6]; rfl
 · rw [if_neg h6, if_neg h6]; rfl
theorem Akh {l : List Obj} (hs : En l) {g : Obj → Obj} (hg : ∀ x, (g x).id = x.id) : En (l.map g) := by
 rw [V4] at *;rw [List.pairwise_map];exact hs.imp fun {a b} h => by rw [hg, hg]; exact h
theorem A1j {l : List Evt} (h : Val l) {f : Evt} (hf : f ∈ l) : Aj f ≠ (0, 0) := fun q => by
 obtain ⟨a, b, _, _, _, h3⟩ := h.mem hf;have h1 : 1 ≤ f.rep := (Cy h3.ck).1;have h2 : f.rep = 0 := congrArg Prod.fst q;omega
theorem Ai5 {l : List Evt} {e : Evt} (h : Val l) (ha : Acc (Am l) e) {f : Evt} (hf : f ∈ l) :
 C9 (l ++ [e]) (l ++ [e]) f = if (e.kind = 3 ∨ e.kind = 4 ∨ e.kind = 5 ∨ e.kind = 6 ∨ e.kind = 7) ∧ Aj f = Az e then GO e (C9 l l f) else C9 l l f := by
 rw [Aqk];have hov := Ss l f l;by_cases hk : e.kind = 3 ∨ e.kind = 4 ∨ e.kind = 5 ∨ e.kind = 6 ∨ e.kind = 7;rotate_left
 · rw [if_neg fun q => hk q.1];have hw : Ph e = false := decide_eq_false (by omega);rw [N2 h ha (fun q => by rw [hw] at q; simp at q), ← hov];have h0 := Xq ha.ck hk;have : D6 f (C9 l l f) e = C9 l l f := if_neg (by rw [h0]; exact fun q => A1j h hf q.symm);rw [this]
 by_cases hi : Aj f = Az e;rotate_left
 · rw [if_neg fun q => hi q.2, N2 h ha (fun q => hi q.2.symm), ← hov];have : D6 f (C9 l l f) e = C9 l l f := if_neg fun q => hi q.symm;rw [this]
 rw [if_pos ⟨hk, hi⟩];unfold D6 GO;rw [if_pos hi.symm];by_cases h7 : e.kind = 7
 · have hw : Ph e = false := decide_eq_false (by omega);rw [if_pos h7, if_pos h7, N2 h ha (fun q => by rw [hw] at q; simp at q), ← hov];unfold Wx;split <;> rfl
 rw [if_neg h7, if_neg h7];by_cases h6 : e.kind = 6
 · have hw : Ph e = false := decide_eq_false (by omega);rw [if_pos h6, if_pos h6, N2 h ha (fun q => by rw [hw] at q; simp at q), ← hov]
 · rw [if_neg h6, if_neg h6];have hw : Ph e = true := decide_eq_true (by omega);rw [hi, An4 h ha hw, hov, hi]
theorem Ak9 {l : List Evt} {e : Evt} (h : Val l) (ha : Acc (Am l) e) : (Am (l ++ [e])).objs = (Hp (Am l) e).objs := by
 obtain ⟨s1, _, m1⟩ := Qw h.nod;obtain ⟨s2, _, m2⟩ := Qw (N4 h ha);have hkn : (Hg (Am l) e).objs = (Am l).objs := rfl;by_cases hk : e.kind = 3 ∨ e.kind = 4 ∨ e.kind = 5 ∨ e.kind = 6 ∨ e.kind = 7
 · obtain ⟨f0, hf0, _, _, ho, _⟩ := Rw h ha hk;have hd := Ayd (s := Hg (Am l) e) s1 hk ho;unfold Hp;rw [hd];refine Sd s2 (Akh s1 fun x => by split; exact A9w e x; rfl) fun x => ?_;rw [m2, List.mem_map];have key : ∀ f ∈ l, C9 (l ++ [e]) (l ++ [e]) f = if (C9 l l f).id = Az e then GO e (C9 l l f) else C9 l l f := fun f hf => by
    rw [Ai5 h ha hf, Jb];by_cases hi : Aj f = Az e
    · rw [if_pos ⟨hk, hi⟩, if_pos hi]
    · rw [if_neg fun q => hi q.2, if_neg hi]
   constructor
   · rintro ⟨f, hf, hc, rfl⟩;rcases List.mem_append.1 hf with hf | hf
     · exact ⟨C9 l l f, (m1 _).2 ⟨f, hf, hc, rfl⟩, (key f hf).symm⟩
     · rw [List.mem_singleton] at hf; subst hf; omega
   · rintro ⟨y, hy, rfl⟩;obtain ⟨f, hf, hc, rfl⟩ := (m1 y).1 hy;exact ⟨f, List.mem_append_left _ hf, hc, (key f hf).symm⟩
 have key : ∀ f ∈ l, C9 (l ++ [e]) (l ++ [e]) f = C9 l l f := fun f hf => by
  rw [Ai5 h ha hf, if_neg fun q => hk q.1]
 have hb := Cy ha.ck;obtain ⟨_, _, _, _, _, b6, b7⟩ := hb;by_cases h12 : e.kind = 1 ∨ e.kind = 2
 · have hd : (Hp (Am l) e).objs = Hs (Am l).objs (Wv e) := by
    unfold Hp doS;rw [if_neg (by omega), if_neg (by omega), if_pos h12]; rfl
   rw [hd];have hne : ∀ x ∈ (Am l).objs, x.id ≠ (Wv e).id := fun x hx q => by
    obtain ⟨f, hf, hc, rfl⟩ := (m1 x).1 hx;rw [Jb] at q;exact Gv h ha f hf q
   refine Sd s2 (Yv s1 hne) fun x => ?_;rw [m2, Ad1];constructor
   · rintro ⟨f, hf, hc, rfl⟩;rcases List.mem_append.1 hf with hf | hf
     · exact .inr ((m1 _).2 ⟨f, hf, hc, key f hf⟩)
     · rw [List.mem_singleton] at hf; subst hf; exact .inl (Ady h ha)
   · rintro (rfl | hx)
     · exact ⟨e, by simp, h12, (Ady h ha).symm⟩
     · obtain ⟨f, hf, hc, rfl⟩ := (m1 x).1 hx;exact ⟨f, List.mem_append_left _ hf, hc, (key f hf).symm⟩
 · have hd : (Hp (Am l) e).objs = (Am l).objs := by
    unfold Hp doS;by_cases h8 : e.kind = 8
    · rw [if_pos h8]; rfl
    · rw [if_neg h8, if_pos (by omega)]; rfl
   rw [hd];refine Sd s2 s1 fun x => ?_;rw [m2, m1];constructor
   · rintro ⟨f, hf, hc, rfl⟩;rcases List.mem_append.1 hf with hf | hf
     · exact ⟨f, hf, hc, key f hf⟩
     · rw [List.mem_singleton] at hf; subst hf; exact absurd hc h12
   · rintro ⟨f, hf, hc, rfl⟩;exact ⟨f, List.mem_append_left _ hf, hc, (key f hf).symm⟩
end Go.Proofs.YthmjebkldgdeiaaGreat.Fw
namespace Go.Proofs.YthmjebkldgdeiaaGreat.Fw
open Go.RowKit Go.Proofs
theorem St.eq {a b : St} (h1 : a.known = b.known) (h2 : a.objs = b.objs) (h3 : a.ents = b.ents) (h4 : a.wards = b.wards) (h5 : a.ret = b.ret) : a = b := by
 cases a; cases b; simp only at h1 h2 h3 h4 h5; subst h1 h2 h3 h4 h5; rfl
theorem A8v (l l' : List Evt) : ∀ m : List Evt, (F7 l m).1.wards = (F7 l' m).1.wards ∧ (F7 l m).1.ret = (F7 l' m).1.ret ∧ (F7 l m).2 = (F7 l' m).2 :=
 Tr ⟨rfl, rfl, rfl⟩ fun m e ⟨h1, h2, h3⟩ => by
  rw [H6, H6];unfold D4;by_cases k12 : e.kind = 1 ∨ e.kind = 2
  · rw [if_pos k12, if_pos k12]; exact ⟨h1, h2, h3⟩
  rw [if_neg k12, if_neg k12];by_cases k8 : e.kind = 8
  · rw [if_pos k8, if_pos k8, h3];split
    · exact ⟨by simp only [Ii, h1], h2, by simp only [h3]⟩
    · exact ⟨h1, h2, h3⟩
  rw [if_neg k8, if_neg k8];by_cases k9 : e.kind = 9
  · rw [if_pos k9, if_pos k9]; exact ⟨h1, by simp only [Oy, h2], h3⟩
  rw [if_neg k9, if_neg k9]; exact ⟨h1, h2, h3⟩
theorem Aj2 {a b : Vc} {r : Int} {q : Nat} {i : Nat} (h : ∀ i, a i ≤ b i) : A8 a r q i ≤ A8 b r q i := by
 by_cases hr : 1 ≤ r ∧ r ≤ 8
 · rw [Qd hr, Qd hr]; have := h i; split <;> omega
 · unfold A8; rw [if_neg hr, if_neg hr]; exact h i
theorem Alp (L : List Evt) : ∀ (m : List Evt) (i : Nat), (F7 L m).2 i ≤ Bh m i :=
 Tr (fun i => Nat.le_refl _) fun m e ih i => by
  rw [H6, Io];unfold D4;split
  · exact Nat.le_trans (ih i) (Uh i)
  · split
    · split
      · exact Aj2 ih
      · exact Nat.le_trans (ih i) (Uh i)
    · split <;> exact Nat.le_trans (ih i) (Uh i)
theorem As0 (s : St) (e : Evt) : (doS s e).known = s.known := by
 unfold doS;split
 · rfl
 · split
   · rfl
   · split
     · rfl
     · split
       · rfl
       · split
         · rfl
         · split <;> rfl
theorem Xv {l : List Evt} {e : Evt} (h : Val l) (ha : Acc (Am l) e) : Am (l ++ [e]) = Hp (Am l) e := by
 obtain ⟨n1, n2, n3⟩ := Aff ha;obtain ⟨_, _, _, _, _, b6, b7⟩ := Cy ha.ck;rw [C4] at n3;have hb : Am (l ++ [e]) = (D4 (l ++ [e]) (F7 (l ++ [e]) l) e).1 := by
  show (F7 (l ++ [e]) (l ++ [e])).1 = _;rw [H6]
 obtain ⟨w1, w2, w3⟩ := A8v (l ++ [e]) l l;have hen := Amn h ha;rw [← Ou (l ++ [e]), ← Ou l] at hen;refine St.eq ?_ (Ak9 h ha) ?_ ?_ ?_
 · rw [C4, Io];unfold Hp; rw [As0];show _ = A8 (Am l).known e.rep e.seq;rw [C4]
 · rw [hen];unfold Hp doS;by_cases h8 : e.kind = 8
   · rw [if_pos h8, if_neg (by omega), if_neg (by omega), if_neg (by omega)]; rfl
   rw [if_neg h8];by_cases h9 : e.kind = 9
   · rw [if_pos h9, if_neg (by omega), if_neg (by omega), if_neg (by omega)]; rfl
   rw [if_neg h9];by_cases h12 : e.kind = 1 ∨ e.kind = 2
   · rw [if_pos h12, if_pos h12]; rfl
   rw [if_neg h12, if_neg h12];obtain ⟨f0, hf0, _, _, ho, _⟩ := Rw h ha (by omega);rw [show Fc (Hg (Am l) e).objs (Az e) = some (C9 l l f0) from ho];simp only;by_cases h7 : e.kind = 7
   · rw [if_pos h7, if_pos h7]; rfl
   rw [if_neg h7, if_neg h7];by_cases h6 : e.kind = 6
   · rw [if_pos h6, if_pos h6]; rfl
   · rw [if_neg h6, if_neg h6]; rfl
 · rw [hb];unfold Hp doS D4;by_cases h8 : e.kind = 8
   · have hlt : Ht (F7 (l ++ [e]) l).2 e.rep < e.seq := by
      unfold Ht; rw [if_pos ⟨n1, n2⟩, w3];have := Alp l l (e.rep - 1).toNat;omega
     rw [if_pos h8, if_neg (by omega), if_pos h8, if_pos hlt];simp only [Ii, w1]; rfl
   rw [if_neg h8, if_neg h8];by_cases h9 : e.kind = 9
   · rw [if_pos h9, if_neg (by omega), if_pos h9];simp only [Oy, w1]; rfl
   rw [if_neg h9, if_neg h9];by_cases h12 : e.kind = 1 ∨ e.kind = 2
   · rw [if_pos h12, if_pos h12]; simp only [w1]; rfl
   rw [if_neg h12, if_neg h12];obtain ⟨f0, hf0, _, _, ho, _⟩ := Rw h ha (by omega);rw [show Fc (Hg (Am l) e).objs (Az e) = some (C9 l l f0) from ho];simp only;rw [w1];split
   · rfl
   · split <;> rfl
 · rw [hb];unfold Hp doS D4;by_cases h8 : e.kind = 8
   · rw [if_pos h8, if_neg (by omega), if_pos h8];split
     · simp only [Ii, w2]; rfl
     · simp only [Ii, w2]; rfl
   rw [if_neg h8, if_neg h8];by_cases h9 : e.kind = 9
   · rw [if_pos h9, if_neg (by omega), if_pos h9];simp only [Oy, w2]; rfl
   rw [if_neg h9, if_neg h9];by_cases h12 : e.kind = 1 ∨ e.kind = 2
   · rw [if_pos h12, if_pos h12]; simp only [w2]; rfl
   rw [if_neg h12, if_neg h12];obtain ⟨f0, hf0, _, _, ho, _⟩ := Rw h ha (by omega);rw [show Fc (Hg (Am l) e).objs (Az e) = some (C9 l l f0) from ho];simp only;rw [w2];split
   · rfl
   · split <;> rfl
theorem Pl {l : List Evt} (h : Val l) (hn : l.length ≤ 400) : StIn (Am l) := by
 obtain ⟨s1, l1, m1⟩ := Qw h.nod;have hv : ∀ o ∈ (Am l).objs, ∃ f ∈ l, o.vers = C0 l (Aj f) l := fun o ho => by
  obtain ⟨f, hf, _, rfl⟩ := (m1 o).1 ho;exact ⟨f, hf, Ss l f l⟩
 have hs := (Su (l := l) l h.nod).1;refine ⟨⟨⟨by omega, fun o ho => ?_, ?_⟩, s1, ?_⟩, fun o ho => ?_, fun o ho v hq => ?_, fun o ho v hq => ?_⟩
 · obtain ⟨f, hf, e⟩ := hv o ho;rw [e]; have := (Gp h.nod (Aj f)).2.1; omega
 · rw [Ou]; have := S9 l l.length l rfl; omega
 · rw [Ou]; exact hs
 · obtain ⟨f, hf, e⟩ := hv o ho;rw [e]; exact (Gp h.nod (Aj f)).1
 · obtain ⟨f, hf, e⟩ := hv o ho;rw [e] at hq;obtain ⟨g, hg, hc, rfl⟩ := ((Gp h.nod (Aj f)).2.2 v).1 hq;exact (N5 h g hg hc.1).1
 · obtain ⟨f, hf, e⟩ := hv o ho;rw [e] at hq;obtain ⟨g, hg, hc, rfl⟩ := ((Gp h.nod (Aj f)).2.2 v).1 hq;rw [C4];exact h.has.2 ⟨g, hg, rfl⟩
theorem Xp {e : Evt} (h : Bm e = true) (hw : Ph e = false) : e.base.l = [] ∧ e.data = [] := by
 obtain ⟨b1, b2, b3, b4, b5, b6, b7⟩ := Cy h;have hz := (Ns h).2;have hk : ¬ (e.kind = 3 ∨ e.kind = 4 ∨ e.kind = 5) := of_decide_eq_false hw;have h4 : e.kind = 1 ∨ e.kind = 2 ∨ e.kind = 6 ∨ e.kind = 7 ∨ e.kind = 8 ∨ e.kind = 9 := by omega
 rcases h4 with k | k | k | k | k | k
 · skip
   rw [Aun k] at hz; simp only [An, Bool.and_eq_true, Bool.or_eq_true, decide_eq_true_eq, Bool.false_eq_true, false_or, true_or, true_and] at hz;exact ⟨List.length_eq_zero_iff.1 (by omega), hz.2.2.2.2.1⟩
 · skip
   rw [Az7 k] at hz; simp only [An, Bool.and_eq_true, Bool.or_eq_true, decide_eq_true_eq, Bool.false_eq_true, false_or, true_or, true_and] at hz;exact ⟨List.length_eq_zero_iff.1 (by omega), hz.2.2.2.2.1⟩
 · skip
   rw [A5b k] at hz; simp only [An, Bool.and_eq_true, Bool.or_eq_true, decide_eq_true_eq, Bool.false_eq_true, false_or, true_or, true_and] at hz;exact ⟨List.length_eq_zero_iff.1 (by omega), hz.2.2.2.1⟩
 · skip
   rw [A5a k] at hz; simp only [An, Bool.and_eq_true, Bool.or_eq_true, decide_eq_true_eq, Bool.false_eq_true, false_or, true_or, true_and] at hz;exact ⟨List.length_eq_zero_iff.1 (by omega), hz.2.2.1⟩
 · skip
   rw [Az6 k] at hz; simp only [An, Bool.and_eq_true, Bool.or_eq_true, decide_eq_true_eq, Bool.false_eq_true, false_or, true_or, true_and] at hz;exact ⟨List.length_eq_zero_iff.1 (by omega), hz.2.2.2.2.2.1⟩
 · skip
   rw [Az5 k] at hz; simp only [An, Bool.and_eq_true, Bool.or_eq_true, decide_eq_true_eq, Bool.false_eq_true, false_or, true_or, true_and] at hz;exact ⟨List.length_eq_zero_iff.1 (by omega), hz.2.2.2.2.2.1⟩
def rkL (l : List Evt) (e : Evt) : Nat := l.findIdx fun x => decide (Aj x = Aj e)
theorem Uj {l : List Evt} (h : Val l) (hn : l.length ≤ 400) : EvsOk l (rkL l) := by
 refine ⟨hn, h.nod, fun e he => ?_, fun e he h5 b t hb e' hf => ?_, fun e he => ?_⟩
 · obtain ⟨a, c, _, _, hv, h3⟩ := h.mem he;refine ⟨hv, ?_⟩;by_cases hw : Ph e = true
   · have := Xt h3.ck hw; omega
   · rw [(Xp h3.ck (by simpa using hw)).2]; simp
 · obtain ⟨a, c, rfl, h1, hv, h3⟩ := h.mem he;by_cases hw : Ph e = true
   · obtain ⟨_, _, g, hg, _, _, hi, _⟩ := Jy h1 h3 hw b (by rw [hb]; simp);have hi' : Aj e' = b := by simpa using List.find?_some hf
     have e1 : rkL (a ++ e :: c) e' < a.length := by
      unfold rkL;rw [List.findIdx_append];have : List.findIdx (fun x => decide (Aj x = Aj e')) a < a.length := List.findIdx_lt_length_of_exists ⟨g, hg, by simp [hi, hi']⟩;rw [if_pos this]; exact this
     have e2 : a.length ≤ rkL (a ++ e :: c) e := by
      unfold rkL;rw [List.findIdx_append];have : ¬ List.findIdx (fun x => decide (Aj x = Aj e)) a < a.length := fun q => by
       have := List.findIdx_getElem (w := q);simp only [decide_eq_true_eq] at this;exact Gv h1 h3 _ (List.getElem_mem _) this
      rw [if_neg this]; omega
     omega
   · rw [(Xp h3.ck (by simpa using hw)).1] at hb; cases hb
 · exact List.findIdx_lt_length_of_exists ⟨e, he, by simp⟩
theorem Ui {l : List Evt} (h : Val l) : ∀ e ∈ l, 1 ≤ e.rep ∧ e.rep ≤ 8 := fun e he => by
 obtain ⟨a, c, _, _, hv, h3⟩ := h.mem he;exact ⟨(Cy h3.ck).1, (Cy h3.ck).2.1⟩
open Classical in
noncomputable def Jz (out : List Evt) (e : Evt) : List Evt := if Ff (Am out) e = 0 then out ++ [e] else out
noncomputable def Mm (l : List Evt) : List Evt := l.foldl Jz []
theorem Vr (l : List Evt) (e : Evt) : Mm (l ++ [e]) = Jz (Mm l) e := by simp [Mm]
theorem Acs : ∀ l : List Evt, (∀ e ∈ l, ev e) → Val (Mm l) ∧ (Mm l).length ≤ l.length ∧ ∀ e ∈ Mm l, e ∈ l :=
 Tr (fun _ => ⟨Val.nil, Nat.le_refl _, fun e he => by cases he⟩) fun l e ih hl => by
  obtain ⟨h1, h2, h3⟩ := ih fun f hf => hl f (List.mem_append_left _ hf);rw [Vr];unfold Jz;split
  · rename_i hw;refine ⟨Val.snoc h1 (hl e (by simp)) hw, by simp only [List.length_append, List.length_singleton]; omega, fun f hf => ?_⟩;rcases List.mem_append.1 hf with hf | hf
    · exact List.mem_append_left _ (h3 f hf)
    · exact List.mem_append_right _ hf
  · exact ⟨h1, by simp only [List.length_append, List.length_singleton]; omega, fun f hf => List.mem_append_left _ (h3 f hf)⟩
theorem Asi (x : Ent) : Ec [K1.int .i64, K1.int .u32, K1.int .i64, K1.int .u32, .str, K1.int .i64, K1.int .u32, .int .u32, .int .u32, .int .u32, .int .u32, .int .u32, .int .u32, .int .u32, .int .u32] (Bn x) = True := eq_true rfl
theorem Dr (c : List PV) : Qq c c = true := by simp [Qq]
def Vu (f g : Bool) (l m : List Ent) (k : Nat) : FS := mk [(5, .pv (.i .i64 k)), (0, .pv (.sl f 15 (l.map Bn))), (1, .pv (.sl g 15 (m.map Bn)))] []
theorem Apw {x y : SV} {f g : Bool} {l m : List Ent} {h d} (hx : Cm h [x, y] = [.pv (.sl f 15 (l.map Bn)), .pv (.sl g 15 (m.map Bn))]) (hl : Bc [x, y] = true) (he : l = m) (hn : l.length ≤ 1000) :
 FunOk Tryz.prog 63 [x, y] h d (.pv (.b true)) [] := by
 refine Ci Af fn63 (by simp) hl rfl fun F => ?_;subst he;rw [hx];simp (disch := omega) only [ir63, List.length_map, go_sem];refine A1 Af (Vu f g l l) (fun k => k ≤ l.length) (fun k => l.length - k) 0 (by simp) (Ak ?_ ?_) fun k hk => ?_
 · simp (disch := omega) only [go_sem]
 · simp (disch := omega) only [go_sem]
 by_cases hlt : k < l.length
 · have h2 : (l.map Bn)[k]? = some (Bn l[k]) := by simp [hlt]
   generalize l[k] = v at *;have hp := Dr (Bn v);have hf := Asi v;simp (disch := omega) only [Vu, List.length_map, h2, Fg, hp, hf, go_sem];refine Ad (k + 1) _ _ rfl (by omega) (by omega) ?_ ?_
   · simp (disch := omega) only [go_sem]
   · simp (disch := omega) only [go_sem]
 · simp (disch := omega) only [Vu, List.length_map, go_sem]
end Go.Proofs.YthmjebkldgdeiaaGreat.Fw
