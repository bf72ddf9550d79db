/- What the functions compute that the laws of this seat reach. -/
import Derived.Test.YthmjebkldgdeiaaGreatWalk1
import Derived.OpenShut
import Derived.ShutString
import Derived.ChangeOld
import Derived.SizedLaws
import Derived.ChangeOld
import Derived.Lib.Bytealg
import Derived.Lib.Overlaps
import Derived.OpenShut
import Derived.ShutString
import Derived.SizedLaws
set_option linter.unusedVariables false
set_option linter.unusedSimpArgs false
set_option linter.unusedSectionVars false
set_option maxRecDepth 100000
namespace Go.Proofs.YthmjebkldgdeiaaGreat.Fw
open Go.RowKit Go.Proofs
structure Obj where
 id : Bn
 dir : Bool
 last : Bn
 name : List UInt8
 seen : Vc
 vers : List Ver
def E9 (f : Bool) (z : Nat) (o : Obj) : List PV := [.i .i64 o.id.1, .i .u32 o.id.2, .b o.dir, .i .i64 o.last.1, .i .u32 o.last.2, .s o.name] ++ vE o.seen ++ [.sl f z (o.vers.map Bb)]
def Ap (o : Obj) : List PV := E9 false 11 o
theorem Ee (f z) (o : Obj) : (E9 f z o).length = 15 := by simp [E9, Bi]
theorem Ep (o : Obj) : (Ap o).length = 15 := Ee _ _ o
theorem Ajb {f : Bool} {z : Nat} (o : Obj) (h : o.vers = [] ∨ z = 11) : PImpL (E9 f z o) (Ap o) := by
 refine PImpL.app (PImpL.refl _) ⟨Hc (by simp) (h.imp (fun e => by rw [e]; rfl) id) (.refl _), trivial⟩
theorem Al5 (f : Bool) (z : Nat) (o : Obj) (K : KK) : LoadK (some (E9 f z o)) 0 2 true K = K (.vec 2 ([.i .i64 o.id.1, .i .u32 o.id.2])) [] := by
 simp only [LoadK, Hp, eq_iff_iff];have e : ((E9 f z o).drop 0).take 2 = [.i .i64 o.id.1, .i .u32 o.id.2] := by
  obtain ⟨i, b, l, n, s, v⟩ := o;simp only [E9, vE, Ch]; rfl
 rw [e];exact ⟨fun h => h.2.2, fun h => ⟨by simp [Ee], .inl trivial, h⟩⟩
theorem Ad9 (f : Bool) (z : Nat) (o : Obj) (K : KK) : LoadK (some (E9 f z o)) 3 2 true K = K (.vec 2 ([.i .i64 o.last.1, .i .u32 o.last.2])) [] := by
 simp only [LoadK, Hp, eq_iff_iff];have e : ((E9 f z o).drop 3).take 2 = [.i .i64 o.last.1, .i .u32 o.last.2] := by
  obtain ⟨i, b, l, n, s, v⟩ := o;simp only [E9, vE, Ch]; rfl
 rw [e];exact ⟨fun h => h.2.2, fun h => ⟨by simp [Ee], .inl trivial, h⟩⟩
theorem Ad7 (f : Bool) (z : Nat) (o : Obj) (K : KK) : LoadK (some (E9 f z o)) 6 8 true K = K (.vec 8 (vE o.seen)) [] := by
 simp only [LoadK, Hp, eq_iff_iff];have e : ((E9 f z o).drop 6).take 8 = vE o.seen := by
  obtain ⟨i, b, l, n, s, v⟩ := o;simp only [E9, vE, Ch]; rfl
 rw [e];exact ⟨fun h => h.2.2, fun h => ⟨by simp [Ee], .inl trivial, h⟩⟩
theorem Agq (f : Bool) (z : Nat) (o : Obj) (K : KK) : LoadK (some (E9 f z o)) 2 1 false K = K (.pv (.b o.dir)) [] := by
 simp only [LoadK, Hp, eq_iff_iff];have e : (E9 f z o).getD 2 (.b false) = .b o.dir := by
  obtain ⟨i, b, l, n, s, v⟩ := o;simp only [E9, vE, Ch]; rfl
 rw [e];exact ⟨fun h => h.2.2, fun h => ⟨by simp [Ee], .inr trivial, h⟩⟩
theorem Ad8 (f : Bool) (z : Nat) (o : Obj) (K : KK) : LoadK (some (E9 f z o)) 5 1 false K = K (.pv (.s o.name)) [] := by
 simp only [LoadK, Hp, eq_iff_iff];have e : (E9 f z o).getD 5 (.b false) = .s o.name := by
  obtain ⟨i, b, l, n, s, v⟩ := o;simp only [E9, vE, Ch]; rfl
 rw [e];exact ⟨fun h => h.2.2, fun h => ⟨by simp [Ee], .inr trivial, h⟩⟩
theorem Ad6 (f : Bool) (z : Nat) (o : Obj) (K : KK) : LoadK (some (E9 f z o)) 14 1 false K = K (.pv (.sl f z (o.vers.map Bb))) [] := by
 simp only [LoadK, Hp, eq_iff_iff];have e : (E9 f z o).getD 14 (.b false) = .sl f z (o.vers.map Bb) := by
  obtain ⟨i, b, l, n, s, v⟩ := o;simp only [E9, vE, Ch]; rfl
 rw [e];exact ⟨fun h => h.2.2, fun h => ⟨by simp [Ee], .inr trivial, h⟩⟩
theorem Axs (f : Bool) (z : Nat) (o : Obj) (K : KK) : LoadK (some (E9 f z o)) 0 15 true K = K (.vec 15 (E9 f z o)) [] := by
 simp only [LoadK, Hp, eq_iff_iff];have e : ((E9 f z o).drop 0).take 15 = E9 f z o := List.take_of_length_le (by simp [Ee]);rw [e];exact ⟨fun h => h.2.2, fun h => ⟨by simp [Ee], .inl trivial, h⟩⟩
theorem He (o : Obj) (K : KK) : LoadK (some (Ap o)) 0 2 true K = K (.vec 2 [.i .i64 o.id.1, .i .u32 o.id.2]) [] := Al5 _ _ o K
theorem Hy (o : Obj) (K : KK) : LoadK (some (Ap o)) 3 2 true K = K (.vec 2 [.i .i64 o.last.1, .i .u32 o.last.2]) [] := Ad9 _ _ o K
theorem Lx (o : Obj) (K : KK) : LoadK (some (Ap o)) 6 8 true K = K (.vec 8 (vE o.seen)) [] := Ad7 _ _ o K
theorem Es (o : Obj) (K : KK) : LoadK (some (Ap o)) 2 1 false K = K (.pv (.b o.dir)) [] := Agq _ _ o K
theorem Agr (o : Obj) (K : KK) : LoadK (some (Ap o)) 5 1 false K = K (.pv (.s o.name)) [] := Ad8 _ _ o K
theorem E2 (o : Obj) (K : KK) : LoadK (some (Ap o)) 14 1 false K = K (.pv (.sl false 11 (o.vers.map Bb))) [] := Ad6 _ _ o K
theorem Fv (o : Obj) (K : KK) : LoadK (some (Ap o)) 0 15 true K = K (.vec 15 (Ap o)) [] := Axs _ _ o K
theorem V8 (o : Obj) (i : Bn) : splice (Ap o) 3 ([.i .i64 i.1, .i .u32 i.2]) = Ap { o with last := i } := by
 obtain ⟨i, b, l, n, s, v⟩ := o;simp only [splice, Ap, E9, vE, Ch]; rfl
theorem V7 (o : Obj) (s : List UInt8) : splice (Ap o) 5 ([.s s]) = Ap { o with name := s } := by
 obtain ⟨i, b, l, n, s, v⟩ := o;simp only [splice, Ap, E9, vE, Ch]; rfl
theorem V6 (o : Obj) (v : Vc) : splice (Ap o) 6 (vE v) = Ap { o with seen := v } := by
 obtain ⟨i, b, l, n, s, v⟩ := o;simp only [splice, Ap, E9, vE, Ch]; rfl
theorem Acv (o : Obj) (f : Bool) (z : Nat) (l : List Ver) : splice (Ap o) 14 ([.sl f z (l.map Bb)]) = E9 f z { o with vers := l } := by
 obtain ⟨i, b, l, n, s, v⟩ := o;simp only [splice, Ap, E9, vE, Ch]; rfl
def obN (o : Obj) : Ent := ⟨o.id, (0, 0), [], (0, 0), fun _ => 0⟩
def El (l : List Obj) : Prop := Ds (l.map obN)
def Bs (l : List Obj) (i : Bn) : Nat := F6 (l.map obN) i
def isO (l : List Obj) (i : Bn) : Bool := Q0 (l.map obN) i
structure St where
 known : Vc
 objs : List Obj
 ents : List Ent
 wards : Nat → Int
 ret : Nat → Bool
def A3 (s : St) (x y : SV) : List SV := [.vec 8 (vE s.known), x, y, .vec 8 (iE s.wards), .vec 8 (wE s.ret)]
def A7 (s : St) : List SV := A3 s (.pv (.sl false 15 (s.objs.map Ap))) (.pv (.sl false 15 (s.ents.map Bm)))
def st0 : St := ⟨fun _ => 0, [], [], fun _ => 0, fun _ => false⟩
theorem Ut {s : St} {f g : Bool} {y z : Nat} {es fs : List (List PV)} (hy : es = [] ∨ y = 15) (hz : fs = [] ∨ z = 15) (he : PImpR es (s.objs.map Ap)) (hf : PImpR fs (s.ents.map Bm)) : Imp (.agg (A3 s (.pv (.sl f y es)) (.pv (.sl g z fs)))) (.agg (A7 s)) :=
 Xb ⟨⟨Imp.refl _, rfl⟩, ⟨S4 (Hc (by simp) hy he), rfl⟩, ⟨S4 (Hc (by simp) hz hf), rfl⟩, ⟨Imp.refl _, rfl⟩, ⟨Imp.refl _, rfl⟩, trivial⟩
theorem Wh : Imp (.agg [.vec 8 (List.replicate 8 (.i .u32 0)), .pv (.sl true 0 []), .pv (.sl true 0 []), .vec 8 (List.replicate 8 (.i .i64 0)), .vec 8 (List.replicate 8 (.b false))]) (.agg (A7 st0)) :=
 Ut (s := st0) (.inl rfl) (.inl rfl) trivial trivial
theorem A2n {m n lo hi : Nat} {es fs : List (List PV)} {h} (hm : h m = some (.row 15 fs)) (hn : h n = some (.row 15 es)) (hne : m ≠ n) (hfs : fs ≠ []) (hes : es ≠ []) (hlt : lo < hi) : Z3 Tryz.prog 153 [.os m, .ov n 15 lo hi] h (.pv (.b false)) := by
 intro F N ρ s a w hR hh vs hc;simp only [ConcL] at hc;obtain ⟨v, us, rfl, hv, u, us', rfl, hu, rfl⟩ := hc;have hsm := (hh m (by simp [A5, tn])).trans hm;have hsn := (hh n (by simp [A5, tn])).trans hn;refine ⟨.bool false, ?_, E5⟩;rw [run_callFunc_extern (fn := (Tryz.prog.funcs[153]?).getD default) (by kernel_rfl) (by kernel_rfl) (by kernel_rfl) (by kernel_rfl) (e := Extern.SlicesOverlaps.overlaps #[43, 43] #[4]) (by kernel_rfl)];rw [Js (tS := 43) (e := 116) (by kernel_rfl) (by kernel_rfl) (by decide) hR hsm hsn hne hfs hes hlt hv hu];rfl
set_option maxHeartbeats 4000000 in
theorem Wu (es : List (List PV)) (cs : List PV) (i : Nat) (hi : i ≤ es.length) (hb : es.length ≤ 1000) (hes : ∀ c ∈ es, c.length = 15) (hcs : cs.length = 15) {h d} (h1 : h 900 = some (.row 15 es)) (h2 : h 901 = some (.row 15 [cs])) : FunOk Tryz.prog 137 [.os 900, .pv (.i .i64 i), .os 901] h d (.os d) [.del 900, .del 901, .new d (.row 15 (es.take i ++ cs :: es.drop i))] := by
 refine Abr Af fn137 (by simp) rfl fun F => ?_;simp only [C0];by_cases he : i = es.length
 · subst he;have e1 : es.take es.length ++ cs :: es.drop es.length = es ++ [cs] := by simp
   rw [e1];simp (disch := omega) only [ir137, h1, h2, go_sem]
 · have hne : es ≠ [] := by intro e; subst e; simp at hi; exact he (by simpa using hi)
   simp (disch := omega) only [ir137, h1, h2, go_sem];intro c hc;by_cases hcap : c < es.length + 1
   · have hp : ((c : Int) < (es.length : Int) + ((1 : Nat) : Int)) = True := eq_true (by omega);have ek : ((es.length : Int) + ((1 : Nat) : Int) - (i : Int)).toNat = es.length + 1 - i := by omega
     (try simp only [Cg, Cf, Ce, Cd, Cc, Cb, Ca, B9]); simp (disch := omega) only [hp, ek, go_sem]
     generalize hT : List.take i es ++ List.replicate (es.length + 1 - i) _ = T;have hTl : T.length = es.length + 1 := by rw [← hT]; simp; omega
     have t1 : T.take i = es.take i := by
      rw [← hT, List.take_append_of_le_length (by simp; omega), List.take_take, Nat.min_self]
     have hi' : (es.take i).length = i := by simp; omega
     have m1 : min 1 (es.length + 1 - i) = 1 := by omega
     have m2 : [cs].take (es.length + 1 - i) = [cs] := List.take_of_length_le (by simp; omega);have hU : (es.take i ++ [cs] ++ T.drop (i + 1)).length = es.length + 1 := by simp [hTl]; omega
     have e1 : ((i : Int) + ((1 : Nat) : Int)).toNat = i + 1 := by omega
     have u1 : (es.take i ++ [cs] ++ T.drop (i + 1)).take (i + 1) = es.take i ++ [cs] := by
      rw [List.take_append_of_le_length (by simp; omega)];exact List.take_of_length_le (by simp; omega)
     have u2 : (es.take es.length).drop i = es.drop i := by rw [List.take_length]
     have u3 : min (es.drop i).length (es.length + 1 - (i + 1)) = es.length - i := by simp
     have u4 : (es.drop i).take (es.length + 1 - (i + 1)) = es.drop i := List.take_of_length_le (by simp);have u5 : (es.take i ++ [cs] ++ T.drop (i + 1)).drop (i + 1 + (es.length - i)) = [] := List.drop_of_length_le (by rw [hU]; omega);have u6 : es.take i ++ cs :: es.drop i = es.take i ++ [cs] ++ es.drop i := by simp
     simp only [hTl, t1, m1, m2, e1, List.length_singleton];simp only [hU, u1, u2, u3, u4, u5, u6, List.append_nil];exact ⟨by omega, by omega, trivial⟩
   · have hp : ((c : Int) < (es.length : Int) + ((1 : Nat) : Int)) = False := eq_false (by omega)
     (try simp only [Cg, Cf, Ce, Cd, Cc, Cb, Ca, B9]); simp (disch := omega) only [hp, go_sem]
     intro g hg hgs;have hg1 : g.length = 1 := by omega
     have e1 : ((i : Int) + ((1 : Nat) : Int)).toNat = i + 1 := by omega
     have hE : (es ++ g).length = es.length + 1 := by simp [hg1]
     refine ⟨by omega, ?_⟩;rw [e1];refine Rj (A2n (es := es ++ g) (fs := [cs]) rfl rfl (by decide) (by simp) (by simp [hne]) (by omega)) ?_;have v1 : ((es ++ g).take (es ++ g).length).drop i = (es ++ g).drop i := by rw [List.take_length]
     have v2 : min ((es ++ g).drop i).length ((es ++ g).length - (i + 1)) = es.length - i := by simp [hg1]; omega
     have v3 : ((es ++ g).drop i).take ((es ++ g).length - (i + 1)) = es.drop i := by
      rw [hE, List.drop_append_of_le_length hi, show es.length + 1 - (i + 1) = (es.drop i).length from by simp];exact List.take_left
     have v4 : (es ++ g).drop (i + 1 + (es.length - i)) = [] := List.drop_of_length_le (by omega);have v5 : ((es ++ g).take (i + 1) ++ es.drop i).length = es.length + 1 := by simp [hg1]; omega
     have v6 : ((es ++ g).take (i + 1) ++ es.drop i).take i = es.take i := by
      rw [List.take_append_of_le_length (by simp; omega), List.take_take, Nat.min_eq_left (by omega), List.take_append_of_le_length hi]
     have v7 : ((es ++ g).take (i + 1) ++ es.drop i).drop (i + 1) = es.drop i := by
      rw [List.drop_append_of_le_length (by simp; omega), List.drop_of_length_le (by simp; omega), List.nil_append]
     have m1 : min 1 (es.length + 1 - i) = 1 := by omega
     have m2 : [cs].take (es.length + 1 - i) = [cs] := List.take_of_length_le (by simp; omega);have u6 : es.take i ++ cs :: es.drop i = es.take i ++ [cs] ++ es.drop i := by simp
     simp (disch := omega) only [e1, v1, v2, v3, v4, v5, v6, v7, m1, m2, u6, go_sem]
theorem Aqn {m n : Nat} (es : List (List PV)) (cs : List PV) (i : Nat) (hi : i ≤ es.length) (hb : es.length ≤ 1000) (hes : ∀ c ∈ es, c.length = 15) (hcs : cs.length = 15) (hmn : m ≠ n) (hm : m < 900) (hn : n < 900) {h d} (hd : d ≠ m ∧ d ≠ n ∧ d < 900) (h1 : h m = some (.row 15 es)) (h2 : h n = some (.row 15 [cs])) : FunOk Tryz.prog 137 [.os m, .pv (.i .i64 i), .os n] h d (.os d) [.del m, .del n, .new d (.row 15 (es.take i ++ cs :: es.drop i))] := by
 have hπ := Aii (a := 900) (m := m) (b := 901) (n := n) (by omega) (by omega) (by omega) hmn;have e1 : sw2 900 m 901 n 900 = m := by unfold sw2; simp
 have e2 : sw2 900 m 901 n 901 = n := by unfold sw2; repeat' split <;> (try omega)
 have e3 : sw2 900 m 901 n d = d := by unfold sw2; repeat' split <;> (try omega)
 have := (Wu es cs i hi hb hes hcs (h := fun k => (h (sw2 900 m 901 n k))) (d := d) (by rw [← h1, e1]) (by rw [← h2, e2])).rn (π := sw2 900 m 901 n) hπ (d' := d);simp only [SV.rnL, SV.rn, HU.rn, Blk.rn, List.map_cons, List.map_nil, e1, e2, e3] at this;refine this.at fun k hk => ?_;simp only [A5, tn, List.append_nil, List.nil_append, List.mem_append, List.mem_singleton] at hk;simp only [hπ];rcases hk with rfl | rfl
 · rw [h1]; rfl
 · rw [h2]; rfl
theorem Aq5 (x : Obj) (b : Bn) {h d} : FunOk Tryz.prog 152 [.vec 15 (Ap x), .vec 2 [.i .i64 b.1, .i .u32 b.2]] h d (.pv (.i .i64 (I5 x.id b))) [] := by
 refine Am Af fn152 (by simp) rfl rfl fun F => ?_;simp (disch := omega) only [ir152, He, go_sem];refine Aa (M3 _ _ _ _) ?_;by_cases h1 : Ck x.id.1 x.id.2 b.1 b.2 = true
 · have e : I5 x.id b = -1 := if_pos h1;simp (disch := omega) only [h1, e, go_sem]
 · have h1' : Ck x.id.1 x.id.2 b.1 b.2 = false := by simpa using h1
   simp (disch := omega) only [h1', He, go_sem];refine Aa (M3 _ _ _ _) ?_;by_cases h2 : Ck b.1 b.2 x.id.1 x.id.2 = true
   · have e : I5 x.id b = 1 := by unfold I5; rw [if_neg h1, if_pos h2]
     simp (disch := omega) only [h2, e, go_sem]
   · have h2' : Ck b.1 b.2 x.id.1 x.id.2 = false := by simpa using h2
     have e : I5 x.id b = 0 := by unfold I5; rw [if_neg h1, if_neg h2]
     simp (disch := omega) only [h2', e, go_sem]
theorem Aje {l : List Obj} {j : Nat} {y : Ent} (h : (l.map obN)[j]? = some y) : ∃ o, l[j]? = some o ∧ y.id = o.id := by
 rw [List.getElem?_map] at h;obtain ⟨o, h1, h2⟩ := Option.map_eq_some_iff.1 h;exact ⟨o, h1, by rw [← h2]; rfl⟩
theorem U8 {l : List Obj} {j : Nat} {o : Obj} (h : l[j]? = some o) : (l.map obN)[j]? = some (obN o) := by rw [List.getElem?_map, h]; rfl
theorem Kz {l : List Obj} (hs : El l) {j m : Nat} {x v : Obj} (hj : l[j]? = some x) (hm : l[m]? = some v) (h : j < m) : H9 x.id v.id = true := Wb (l := l.map obN) hs (U8 hj) (U8 hm) h
theorem Aws {l : List Obj} {i : Bn} {k : Nat} (hk : k ≤ l.length) (h1 : ∀ j x, j < k → l[j]? = some x → H9 x.id i = true) (h2 : ∀ x, l[k]? = some x → ¬ H9 x.id i = true) : Bs l i = k :=
 Aiv (l := l.map obN) (by simpa using hk) (fun j x hj hx => by
  obtain ⟨o, h3, h4⟩ := Aje hx;rw [h4]; exact h1 j o hj h3) fun x hx => by
  obtain ⟨o, h3, h4⟩ := Aje hx;rw [h4]; exact h2 o h3
theorem Lt (l : List Obj) (i : Bn) : Bs l i ≤ l.length := by have := Aa0 (l.map obN) i; simpa [Bs] using this
theorem Qz {l : List Obj} (hs : El l) (i : Bn) : isO l i = match l[Bs l i]? with | some x => decide (x.id = i) | none => false := by
 have h := Qs (l := l.map obN) hs i;unfold isO Q0;rw [h];show _ = match l[Bs l i]? with | some x => decide (x.id = i) | none => false
 unfold Bs;cases hx : l[F6 (l.map obN) i]? with
 | none => rw [List.getElem?_map, hx]; rfl
 | some x =>
   rw [List.getElem?_map, hx];show (if x.id = i then some (obN x) else none).isSome = decide (x.id = i);by_cases e : x.id = i <;> simp [e]
theorem A3t {l : List Obj} (hs : El l) {i : Bn} (h : isO l i = true) : ∃ o, l[Bs l i]? = some o ∧ o.id = i := by
 rw [Qz hs] at h;cases hx : l[Bs l i]? with
 | none => rw [hx] at h; cases h
 | some x => rw [hx] at h; exact ⟨x, rfl, by simpa using h⟩
def Aap (f : Bool) (l : List Obj) (i : Bn) (p : Nat × Nat) : FS := mk [(9, .pv (.i .i64 p.1)), (10, .pv (.i .i64 p.2)), (8, .pv (.i .i64 l.length)), (0, .pv (.sl f 15 (l.map Ap))), (2, .fn (.func 152) []), (4, .p 4 0)] [(4, some (.var (.vec 2 [.i .i64 i.1, .i .u32 i.2])))]
set_option maxHeartbeats 1000000 in
theorem A2v {x : SV} {f : Bool} {l : List Obj} (i : Bn) {h d} (hx : Cq h [x, .vec 2 [.i .i64 i.1, .i .u32 i.2], .fn (.func 152) []] = [.pv (.sl f 15 (l.map Ap)), .vec 2 [.i .i64 i.1, .i .u32 i.2], .fn (.func 152) []]) (hl : Bf [x, .vec 2 [.i .i64 i.1, .i .u32 i.2], .fn (.func 152) []] = true) (hs : El l) (hn : l.length ≤ 1000) :
 FunOk Tryz.prog 151 [x, .vec 2 [.i .i64 i.1, .i .u32 i.2], .fn (.func 152) []] h d (.tup [.pv (.i .i64 (Bs l i)), .pv (.b (isO l i))]) [] := by
 refine Co Af fn151 (by simp) hl rfl fun F => ?_;rw [hx];simp (disch := omega) only [ir151, List.length_map, go_sem];refine Az Af (Aap f l i) (fun p => p.1 ≤ p.2 ∧ p.2 ≤ l.length ∧ (∀ j x, j < p.1 → l[j]? = some x → H9 x.id i = true) ∧ ∀ j x, p.2 ≤ j → l[j]? = some x → ¬ H9 x.id i = true) (fun p => p.2 - p.1) (0, l.length) ⟨by simp, by simp, by simp, fun j x hj hx => by simp only at hj; rw [List.getElem?_eq_none hj] at hx; cases hx⟩ (Ah ?_ ?_) fun p hp => ?_
 · (try simp only [Cg, Cf, Ce, Cd, Cc, Cb, Ca, B9]); simp (disch := omega) only [go_sem]
 · simp (disch := omega) only [go_sem]
 obtain ⟨a, b⟩ := p;obtain ⟨p1, p2, p3, p4⟩ := hp;simp only at p1 p2 p3 p4;by_cases hlt : a < b
 · have hm : (a + b) / 2 < l.length := by omega
   have hx : l[(a + b) / 2]? = some l[(a + b) / 2] := List.getElem?_eq_getElem hm;have he : (l.map Ap)[(a + b) / 2]? = some (Ap l[(a + b) / 2]) := by rw [List.getElem?_map, hx]; rfl
   have e1 : ((a : Int) + (b : Int)).fdiv (2 ^ min (Int.toNat 1) 64) = (((a + b) / 2 : Nat) : Int) := by
    rw [show (2 : Int) ^ min (Int.toNat 1) 64 = 2 from rfl, Int.fdiv_eq_ediv_of_nonneg _ (by omega)]; omega
   have hm1 : a ≤ (a + b) / 2 := by omega
   have hm2 : (a + b) / 2 < b := by omega
   generalize l[(a + b) / 2] = v at *;generalize (a + b) / 2 = m at *;simp (disch := omega) only [Aap, List.length_map, e1, he, Fv, go_sem];refine Aa (Aq5 v i) ?_;by_cases hc : H9 v.id i = true
   · have e2 : (I5 v.id i < 0) = True := by rw [Vg]; exact eq_true hc
     simp (disch := omega) only [e2, go_sem];refine Ad (x := (a, b)) (m + 1, b) _ _ rfl ⟨by show m + 1 ≤ b; omega, p2, fun j x hj hx' => ?_, p4⟩ (by show b - (m + 1) < b - a; omega) ?_ ?_
     · by_cases e : j = m
       · subst e; rw [hx] at hx'; cases hx'; exact hc
       · exact G7 (Kz hs hx' hx (by simp only at hj; omega)) hc
     · (try simp only [Cg, Cf, Ce, Cd, Cc, Cb, Ca, B9]); simp (disch := omega) only [go_sem]
     · simp (disch := omega) only [go_sem]
   · have e2 : (I5 v.id i < 0) = False := by rw [Vg]; exact eq_false hc
     simp (disch := omega) only [e2, go_sem];refine Ad (x := (a, b)) (a, m) _ _ rfl ⟨by show a ≤ m; omega, by show m ≤ _; omega, p3, fun j x hj hx' => ?_⟩ (by show m - a < b - a; omega) ?_ ?_
     · by_cases e : j = m
       · subst e; rw [hx] at hx'; cases hx'; exact hc
       · exact fun q => hc (G7 (Kz hs hx hx' (by simp only at hj; omega)) q)
     · (try simp only [Cg, Cf, Ce, Cd, Cc, Cb, Ca, B9]); simp (disch := omega) only [go_sem]
     · simp (disch := omega) only [go_sem]
 · obtain rfl : a = b := by omega
   have hpos : Bs l i = a := Aws p2 p3 fun x hx' => p4 a x (Nat.le_refl a) hx';have hk := Qz hs i;rw [hpos] at hk;by_cases hal : a < l.length
   · have hx' : l[a]? = some l[a] := List.getElem?_eq_getElem hal;have he : (l.map Ap)[a]? = some (Ap l[a]) := by rw [List.getElem?_map, hx']; rfl
     rw [hx'] at hk;simp only at hk;generalize l[a] = v at *;simp (disch := omega) only [Aap, hal, he, Fv, List.length_map, go_sem];refine Aa (Aq5 v i) ?_;by_cases hv : v.id = i
     · have e2 : (I5 v.id i = 0) = True := by rw [Vh]; exact eq_true hv
       have e3 : isO l i = true := by rw [hk]; simp [hv]
       simp (disch := omega) only [e2, e3, hpos, go_sem]
     · have e2 : (I5 v.id i = 0) = False := by rw [Vh]; exact eq_false hv
       have e3 : isO l i = false := by rw [hk]; simp [hv]
       simp (disch := omega) only [e2, e3, hpos, go_sem]
   · rw [List.getElem?_eq_none (by omega)] at hk;simp (disch := omega) only [Aap, hal, hpos, hk, go_sem]
theorem M5 {x : SV} {f : Bool} {l : List Obj} (i : Bn) {h d} (hx : Cq h [x, .vec 2 [.i .i64 i.1, .i .u32 i.2]] = [.pv (.sl f 15 (l.map Ap)), .vec 2 [.i .i64 i.1, .i .u32 i.2]]) (hl : Bf [x, .vec 2 [.i .i64 i.1, .i .u32 i.2]] = true) (hs : El l) (hn : l.length ≤ 1000) :
 FunOk Tryz.prog 136 [x, .vec 2 [.i .i64 i.1, .i .u32 i.2]] h d (.tup [.pv (.i .i64 (Bs l i)), .pv (.b (isO l i))]) [] := by
 refine Co Af fn136 (by simp) hl rfl fun F => ?_;rw [hx];simp (disch := omega) only [ir136, go_sem];refine Aa (A2v (l := l) i rfl rfl hs hn) ?_;simp (disch := omega) only [go_sem]
def Ku (l : List Obj) (i : Bn) : Int := if i = (0, 0) then 0 else match l[Bs l i]? with
 | some o => if o.id = i then (if o.dir = true then 0 else 22) else 2
 | none => 2
theorem A4n {l : List Obj} (hs : El l) {i : Bn} (h : i ≠ (0, 0)) (k : isO l i = false) : Ku l i = 2 := by
 unfold Ku; rw [if_neg h];rw [Qz hs] at k;cases hx : l[Bs l i]? with
 | none => rfl
 | some x => rw [hx] at k; simp only at k ⊢; rw [if_neg (by simpa using k)]
theorem A4m {l : List Obj} {i : Bn} {o : Obj} (h : i ≠ (0, 0)) (k : l[Bs l i]? = some o) (ho : o.id = i) : Ku l i = if o.dir = true then 0 else 22 := by
 unfold Ku; rw [if_neg h, k]; simp only; rw [if_pos ho]
theorem Acb {i : Bn} (h : i = (0, 0)) : i.1 = 0 ∧ i.2 = 0 := by subst h; exact ⟨rfl, rfl⟩
theorem Aqp {s : St} (i : Bn) {h d} (hs : El s.objs) (hn : s.objs.length ≤ 1000) : FunOk Tryz.prog 135 [.agg (A7 s), .vec 2 [.i .i64 i.1, .i .u32 i.2]] h d (.pv (.i .i64 (Ku s.objs i))) [] := by
 refine Am Af fn135 (by simp) rfl rfl fun F => ?_;by_cases h0 : i = (0, 0)
 · have e : Ku s.objs i = 0 := if_pos h0;have hz : Bz i.1 i.2 = true := decide_eq_true (Acb h0);simp (disch := omega) only [ir135, A7, A3, Ae, Ar, Aq, hz, e, go_sem]
 · have hz : Bz i.1 i.2 = false := decide_eq_false fun e => h0 (Prod.ext e.1 e.2);simp (disch := omega) only [ir135, A7, A3, Ae, Ar, Aq, hz, go_sem];refine Aa (M5 (l := s.objs) i rfl rfl hs hn) ?_;by_cases hi : isO s.objs i = true
   · obtain ⟨o, h1, h2⟩ := A3t hs hi;have e := A4m h0 h1 h2;have hlt := (List.getElem?_eq_some_iff.1 h1).1;have he : (s.objs.map Ap)[Bs s.objs i]? = some (Ap o) := by rw [List.getElem?_map, h1]; rfl
     by_cases hd : o.dir = true
     · rw [if_pos hd] at e;simp (disch := omega) only [hi, List.length_map, he, Es, hd, e, go_sem]
     · rw [if_neg hd] at e;have hd' : o.dir = false := by simpa using hd
       simp (disch := omega) only [hi, List.length_map, he, Es, hd', e, go_sem]
   · have hi' : isO s.objs i = false := by simpa using hi
     have e := A4n hs h0 hi';simp (disch := omega) only [hi', e, go_sem]
theorem As3 {P : Program} (hm : P.follows .mixedOrders = true) {f N' : Nat} {rs : List Rv} {c : C} (hf : A6 P f = some (N', rs, c)) {args : List SV} {h : Nat → Option Blk} {d : Nat} {sz : Nat} {es : List (List PV)} {X : Nat → SV} (hlen : args.length ≤ N')
 (hargs : SV.closedL args = true) (hX : ∀ (V V' : View) (ρ ρ' : Nat → Value) (n d : Nat) (v : Value), View.le V V' → ρ' d = ρ n → Conc V ρ (X n) v → Conc V' ρ' (X d) v)
 (hrun : ∀ F, sx (Rx P F N') c (Ou rs fun y g => ∃ n, y = X n ∧ g n = some (.row sz es)) (mk (C9 0 args) [])) :
 FunOk P f args h d (X d) [.new d (.row sz es)] := by
 obtain ⟨h1, h2, h3⟩ := Cj hargs;refine ⟨Cp hf, fun F N ρ s a w hR hh vs hc => ?_⟩;refine Calls.mono (Dn hm hf (h := h) hlen h2 Jr (by rw [h3]; exact hrun) hR hh hc) fun e w' he => ?_;obtain ⟨v, rfl, hg, N'', ρ', s', a', y, hR', hy, n, rfl, hn⟩ := he;rw [h1, Dv] at hR' hy;obtain ⟨base, cap, g1, g2, g3, g4, g5⟩ := hR'.own n _ hn;have hown : ∀ b, Cs (ρ' n) = some b → w.heap.size ≤ b ∧ b < w'.heap.size := fun b hb => by
  have ho : Cn ρ' s'.h b := ⟨n, _, hn, hb⟩
  exact ⟨(hR'.may b ho).resolve_right id, hR'.lt ho⟩
 have hnew := hR.adopt hg d (.row sz es) (ρ' n) hown fun _ => by
  refine ⟨base, cap, by rw [A1]; exact g1, g2, g3, g4, fun hcap => ?_⟩;obtain ⟨b, vs', ty, fr, k1, k2, k3, k4, k5, k6⟩ := g5 hcap;refine ⟨b, vs', ty, fr, k1, k2, k3, k4, k5, fun i c hi => (k6 i c hi).mono (Bj fun b' c' ho hc' => ⟨fun hb' => ?_, hc'⟩)⟩;rcases hb' with ⟨m, z, hm1, hm2⟩ | hb'
  · by_cases hmd : m = d
    · subst hmd;rw [A1] at hm2;exact ho (.inl ⟨n, _, hn, hm2⟩)
    · rw [Br hmd] at hm2;simp only [FS.hup, FS.seth, FS.kill, hmd, if_false] at hm1;obtain ⟨z', hz', _⟩ := Option.map_eq_some_iff.1 hm1;exact ho (.inr (.inl ⟨m, z', hz', hm2⟩))
  · exact ho (.inr (.inr hb'))
 refine ⟨v, _, rfl, hnew.1, hX _ _ _ _ _ _ _ (Bj fun b' c' ho hc' => ⟨fun hb' => ?_, hc'⟩) A1 hy⟩;rcases hb' with ⟨m, z, hm1, hm2⟩ | hb'
 · by_cases hmd : m = d
   · subst hmd;rw [A1] at hm2;exact ho (.inl ⟨n, _, hn, hm2⟩)
   · rw [Br hmd] at hm2;simp only [FS.hup, FS.seth, FS.kill, hmd, if_false] at hm1;obtain ⟨z', hz', _⟩ := Option.map_eq_some_iff.1 hm1;exact ho (.inr (.inl ⟨m, z', hz', hm2⟩))
 · exact ho (.inr (.inr hb'))
theorem Aln {f : Bool} {z : Nat} {es : List (List PV)} {h d} (hz : es = [] ∨ z = 15) (hb : es.length ≤ 1000) : FunOk Tryz.prog 94 [.pv (.sl f z es)] h d (.pv (.sl false 15 es)) [] := by
 refine Nf Af fn94 (by simp) rfl fun F => ?_;simp (disch := omega) only [ir94, go_sem];intro b hb';cases b
 · simp (disch := omega) only [go_sem]
 · have he : es = [] := by
    cases es with
    | nil => rfl
    | cons c l => exact absurd (hb' (by simp)) (by simp)
   subst he
   (try simp only [Cg, Cf, Ce, Cd, Cc, Cb, Ca, B9]); simp (disch := omega) only [go_sem]
   decide
theorem Alm {f : Bool} {z : Nat} {es : List (List PV)} {h d} (hz : es = [] ∨ z = 11) (hb : es.length ≤ 1000) : FunOk Tryz.prog 95 [.pv (.sl f z es)] h d (.pv (.sl false 11 es)) [] := by
 refine Nf Af fn95 (by simp) rfl fun F => ?_;simp (disch := omega) only [ir95, go_sem];intro b hb';cases b
 · simp (disch := omega) only [go_sem]
 · have he : es = [] := by
    cases es with
    | nil => rfl
    | cons c l => exact absurd (hb' (by simp)) (by simp)
   subst he
   (try simp only [Cg, Cf, Ce, Cd, Cc, Cb, Ca, B9]); simp (disch := omega) only [go_sem]
   decide
theorem Aet {V V' : View} {ρ ρ' : Nat → Value} {n d : Nat} {a b : List SV} {v : Value} (hV : V.le V') (he : ρ' d = ρ n) (ha : SV.closedL a = true) (hb : SV.closedL b = true) (h : Conc V ρ (.agg (a ++ .os n :: b)) v) : Conc V' ρ' (.agg (a ++ .os d :: b)) v := by
 simp only [Conc] at h ⊢;obtain ⟨vs, rfl, hc⟩ := h;obtain ⟨va, vb, rfl, h1, h2⟩ := Ki hc;simp only [Cells] at h2;obtain ⟨u, ub, rfl, h3, h4, h5, h6⟩ := h2;refine ⟨_, rfl, Mc (Eg hV ha h1) ?_⟩;simp only [Cells];refine ⟨u, ub, rfl, ?_, h4, h5, Eg hV hb h6⟩;simp only [Conc] at h3 ⊢;rw [he]; exact h3
def cpS (k : Nat) : SV := if k = 0 then .pv (.sl true 0 []) else .os 40
def cpK (l : List Obj) (k : Nat) : Option Blk := if k = 0 then none else some (.row 15 ((l.take k).map Ap))
theorem Atx : cpS 0 = .pv (.sl true 0 []) := rfl
theorem Aj1 {k : Nat} (h : k ≠ 0) : cpS k = .os 40 := if_neg h
theorem Aty (l : List Obj) : cpK l 0 = none := rfl
theorem Aj2 {l : List Obj} {k : Nat} (h : k ≠ 0) : cpK l k = some (.row 15 ((l.take k).map Ap)) := if_neg h
def Bt : SV := .agg [.vec 8 (List.replicate 8 (.i .u32 0)), .pv (.sl true 0 []), .pv (.sl true 0 []), .vec 8 (List.replicate 8 (.i .i64 0)), .vec 8 (List.replicate 8 (.b false))]
def Fc (s : St) : SV := .pv (.sl false 15 (s.ents.map Bm))
def Av6 (s : St) (k : Nat) : FS := mk [(15, .pv (.i .i64 k)), (14, .pv (.i .i64 s.objs.length)), (13, .pv (.sl false 15 (s.objs.map Ap))), (3, .p 3 0), (2, .p 2 0)] [(3, some (.var (.agg (A3 s (cpS k) (Fc s))))), (2, some (.var Bt)), (40, cpK s.objs k)]
theorem Cz {α : Type} {l : List α} {k : Nat} {y : α} (h : l[k]? = some y) : l.take (k + 1) = l.take k ++ [y] := by
 rw [List.take_add_one, h]; rfl
theorem Y1 (l : List Obj) : ∀ c ∈ l.map Ap, c.length = 15 := fun c hc => by
 obtain ⟨o, _, rfl⟩ := List.mem_map.1 hc;exact Ep o
set_option maxHeartbeats 4000000 in
theorem Te {s : St} (hn : s.objs.length ≤ 1000) (hv : ∀ o ∈ s.objs, o.vers.length ≤ 1000) (he : s.ents.length ≤ 1000) {F : Fr} {R : SV → (Nat → Option Blk) → Prop}
 (h1 : s.objs = [] → ∀ h, R (.agg (A3 s (.pv (.sl true 0 [])) (Fc s))) h) (h2 : s.objs ≠ [] → ∀ h, h 40 = some (.row 15 (s.objs.map Ap)) → R (.agg (A3 s (.os 40) (Fc s))) h) :
 sx (Rx Tryz.prog F 31) ir53 (Ou [.c 2 26 true] R) (mk (C9 0 [.agg (A7 s)]) []) := by
 simp (disch := omega) only [ir53, A7, A3, go_sem];refine Aa (Aln (es := s.ents.map Bm) (.inr rfl) (by simpa using he)) ?_;simp (disch := omega) only [List.length_map, go_sem];refine Az Af (Av6 s) (fun k => k ≤ s.objs.length) (fun k => s.objs.length - k) 0 (by simp) (Ah ?_ ?_) fun k hk => ?_
 · simp (disch := omega) only [go_sem]
 · simp (disch := omega) only [Atx, Aty, A3, Fc, Bt, go_sem]
 by_cases hlt : k < s.objs.length
 · have hx : s.objs[k]? = some s.objs[k] := List.getElem?_eq_getElem hlt;have hel : (s.objs.map Ap)[k]? = some (Ap s.objs[k]) := by rw [List.getElem?_map, hx]; rfl
   have ht := Cz hx;have hvk := hv _ (List.getElem_mem hlt);generalize s.objs[k] = o at *;have hsp : splice (Ap o) 14 [.sl false 11 (o.vers.map Bb)] = Ap o := Acv o false 11 o.vers;have hol := Ep o;have htm : (s.objs.take (k + 1)).map Ap = (s.objs.take k).map Ap ++ [Ap o] := by rw [ht]; simp
   have hkl : ((s.objs.take k).map Ap).length = k := by simp; omega
   simp (disch := omega) only [Av6, A3, List.length_map, hel, Fv, go_sem];simp (disch := omega) only [E2, go_sem];refine Aa (Alm (es := o.vers.map Bb) (.inr rfl) (by simpa using hvk)) ?_;by_cases h0 : k = 0
   · subst h0;simp (disch := omega) only [hsp, Atx, Aty, Fv, hol, A3, Fc, Bt, go_sem];have hS := Aj1 (k := 1) (by omega);have hK := Aj2 (l := s.objs) (k := 1) (by omega);refine ⟨fun _ => trivial, (1 : Nat), by omega, by show _ - 1 < _ - 0; omega, D5 27 40 (by decide) rfl (Ah ?_ ?_)⟩
     · simp (disch := omega) only [go_sem]
     · simp (disch := omega) only [hS, hK, htm, A3, Fc, Bt, go_sem];rfl
   · have hS := Aj1 h0;have hK := Aj2 (l := s.objs) h0;simp (disch := omega) only [hsp, hS, hK, Fv, hol, A3, Fc, Bt, hkl, go_sem];have hS' := Aj1 (k := k + 1) (by omega);have hK' := Aj2 (l := s.objs) (k := k + 1) (by omega);refine ⟨k + 1, by omega, by omega, D5 27 40 (by decide) rfl (Ah ?_ ?_)⟩
     · simp (disch := omega) only [go_sem]
     · simp (disch := omega) only [hS', hK', htm, A3, Fc, Bt, go_sem]
 · obtain rfl : k = s.objs.length := by omega
   by_cases h0 : s.objs = []
   · have := h1 h0;have e : s.objs.length = 0 := by rw [h0]; rfl
     simp (disch := omega) only [Av6, A3, e, Atx, Aty, Fc, Bt, go_sem];exact this _
   · have e : s.objs.length ≠ 0 := fun e => h0 (List.eq_nil_of_length_eq_zero e);have hS := Aj1 e;have hK := Aj2 (l := s.objs) e;simp (disch := omega) only [Av6, A3, hS, hK, Fc, Bt, go_sem];exact h2 h0 _ (by simp [mk, lk])
theorem Amw {P : Program} (hm : P.follows .mixedOrders = true) {f N' : Nat} {rs : List Rv} {c : C} (hf : A6 P f = some (N', rs, c)) {args : List SV} {h : Nat → Option Blk} {d : Nat} {sz : Nat} {es : List (List PV)} {l r : List SV} (hlen : args.length ≤ N')
 (hargs : SV.closedL args = true) (hl : SV.closedL l = true) (hr : SV.closedL r = true) (hrun : ∀ F, sx (Rx P F N') c (Ou rs fun y g => (∃ n, y = .agg (l ++ .os n :: r) ∧ g n = some (.row sz es)) ∨ ∃ z, y = .agg (l ++ .pv (.sl true z []) :: r) ∧ es = []) (mk (C9 0 args) [])) :
 FunOk P f args h d (.agg (l ++ .pv (.sl false sz es) :: r)) [] := by
 obtain ⟨h1, h2, h3⟩ := Cj hargs;refine ⟨Cp hf, fun F N ρ s a w hR hh vs hc => ?_⟩;refine Calls.mono (Dn hm hf (h := h) hlen h2 Jr (by rw [h3]; exact hrun) hR hh hc) fun e w' he => ?_;obtain ⟨v, rfl, hg, N'', ρ', s', a', y, hR', hy, hyy⟩ := he;rw [h1, Dv] at hR' hy;refine ⟨v, ρ, rfl, hR.grew hg, ?_⟩;have key : ∀ (x : SV), x.width = 1 → y = .agg (l ++ x :: r) → (∀ u, Conc (vw ⟨w, fun _ => False, F.out ρ s.h, fun _ => undef, []⟩ w' ρ' s') ρ' x u → PConc (vw F w' ρ s) (.sl false sz es) u) → Conc (vw F w' ρ (s.hup [])) ρ (.agg (l ++ .pv (.sl false sz es) :: r)) v := fun x hw e k => by
  subst e;simp only [Conc] at hy ⊢;obtain ⟨vs, rfl, hc⟩ := hy;obtain ⟨va, vb, rfl, g1, g2⟩ := Ki hc;simp only [Cells] at g2;obtain ⟨u, ub, rfl, g3, g4, g5, g6⟩ := g2;refine ⟨_, rfl, Mc (Eg (E6 hR') hl g1) ?_⟩;simp only [Cells];exact ⟨u, ub, rfl, by simp only [Conc]; exact k u g3, g4.trans hw, g5, Eg (E6 hR') hr g6⟩
 rcases hyy with ⟨n, e, hn⟩ | ⟨z, e, rfl⟩
 · refine key _ rfl e fun u hu => ?_;simp only [Conc] at hu;rw [hu.1]; exact Wm hR' hn
 · refine key _ rfl e fun u hu => ?_;simp only [Conc] at hu;exact (Hc (by simp) (.inl rfl) (.refl [])) _ _ (hu.mono (E6 hR'))
structure Fine (s : St) : Prop where
 on : s.objs.length ≤ 500
 ov : ∀ o ∈ s.objs, o.vers.length ≤ 500
 en : s.ents.length ≤ 500
theorem Aq0 {s : St} (hs : Fine s) {h d} : FunOk Tryz.prog 53 [.agg (A7 s)] h d (.agg (A3 s (.os d) (Fc s))) [.new d (.row 15 (s.objs.map Ap))] := by
 have a1 : s.objs.length ≤ 1000 := Nat.le_trans hs.on (by omega);have a2 : ∀ o ∈ s.objs, o.vers.length ≤ 1000 := fun o ho => Nat.le_trans (hs.ov o ho) (by omega);have a3 : s.ents.length ≤ 1000 := Nat.le_trans hs.en (by omega);by_cases h0 : s.objs = []
 · rw [h0];refine FunOk.nilos (a := [.vec 8 (vE s.known)]) (b := [Fc s, .vec 8 (iE s.wards), .vec 8 (wE s.ret)]) (z := 0) (sz := 15) ?_ rfl rfl (by omega);refine Am Af fn53 (by simp) rfl rfl fun F => ?_;exact Te a1 a2 a3 (fun _ _ => rfl) fun e => absurd h0 e
 · refine As3 (X := fun n => .agg (A3 s (.os n) (Fc s))) Af fn53 (by simp) rfl (fun V V' ρ ρ' n d v hV he hc => Aet (a := [.vec 8 (vE s.known)]) (b := [Fc s, .vec 8 (iE s.wards), .vec 8 (wE s.ret)]) hV he rfl rfl hc) fun F => ?_;exact Te a1 a2 a3 (fun e => absurd e h0) fun _ h hh => ⟨40, rfl, hh⟩
theorem Yz {s : St} (hs : Fine s) {h d} : FunOk Tryz.prog 53 [.agg (A7 s)] h d (.agg (A7 s)) [] := by
 have a1 : s.objs.length ≤ 1000 := Nat.le_trans hs.on (by omega);have a2 : ∀ o ∈ s.objs, o.vers.length ≤ 1000 := fun o ho => Nat.le_trans (hs.ov o ho) (by omega);have a3 : s.ents.length ≤ 1000 := Nat.le_trans hs.en (by omega);refine Amw (l := [.vec 8 (vE s.known)]) (r := [Fc s, .vec 8 (iE s.wards), .vec 8 (wE s.ret)]) Af fn53 (by simp) rfl rfl rfl fun F => ?_;exact Te a1 a2 a3 (fun e h => .inr ⟨0, rfl, by rw [e]; rfl⟩) fun _ h hh => .inl ⟨40, rfl, hh⟩
def Aj9 : List SV → List PV → Prop
 | [], cs => cs = []
 | .pv x :: l, cs => ∃ r, cs = x :: r ∧ Aj9 l r
 | .vec n c :: l, cs => c.length = n ∧ ∃ r, cs = c ++ r ∧ Aj9 l r
 | _ :: _, _ => False
theorem Tf {V : View} {ρ : Nat → Value} : ∀ {l : List SV} {cs : List PV} {vs : List Value}, Aj9 l cs → PCells V cs vs → Cells V ρ l vs
 | [], cs, vs, h, hp => by
   have h : cs = [] := h;subst h;simp only [Cells];exact List.eq_nil_of_length_eq_zero hp.1.symm
 | .pv x :: l, cs, vs, h, hp => by
   obtain ⟨r, rfl, h⟩ := h;simp only [Cells];obtain ⟨v, hv, hx⟩ := hp.2 0 x rfl;cases vs with
   | nil => cases hv
   | cons u us =>
     have : u = v := by simpa using hv
     subst this;have hf : Ax u = [u] := by have := hx.one; cases u <;> simp_all [Ax, Ba]
     refine ⟨u, us, by rw [hf]; rfl, by simp only [Conc]; exact hx, by rw [hf]; rfl, fun c hc => ?_, Tf h ⟨by simpa using hp.1, fun j y hy => by simpa using hp.2 (j + 1) y (by simpa using hy)⟩⟩;rw [hf] at hc;rw [List.mem_singleton.1 hc];exact hx.one
 | .vec n c :: l, cs, vs, h, hp => by
   obtain ⟨hn, r, rfl, h⟩ := h;simp only [Cells];have hl : c.length + r.length = vs.length := by simpa using hp.1
   have hA : PCells V c (vs.take n) := ⟨by simp; omega, fun j y hy => by
    have hj := (List.getElem?_eq_some_iff.1 hy).1;obtain ⟨v, h1, h2⟩ := hp.2 j y (by rw [List.getElem?_append_left hj]; exact hy);exact ⟨v, by rw [List.getElem?_take_of_lt (by omega)]; exact h1, h2⟩⟩
   refine ⟨.agg ⟨vs.take n⟩, vs.drop n, (List.take_append_drop n vs).symm, by simp only [Conc]; exact ⟨_, rfl, by simp; omega, hA⟩, by simp [Ax, SV.width]; omega, fun x hx => hA.one x hx, Tf h ⟨by simp; omega, fun j y hy => by
    obtain ⟨v, h1, h2⟩ := hp.2 (n + j) y (by rw [List.getElem?_append_right (by omega)]; simpa [hn] using hy);exact ⟨v, by rw [List.getElem?_drop]; exact h1, h2⟩⟩⟩
 | .agg _ :: _, _, _, h, _ => h.elim
 | .tup _ :: _, _, _, h, _ => h.elim
 | .p _ _ :: _, _, _, h, _ => h.elim
 | .ps _ _ :: _, _, _, h, _ => h.elim
 | .pr _ _ _ _ :: _, _, _, h, _ => h.elim
 | .pi _ _ _ _ :: _, _, _, h, _ => h.elim
 | .os _ :: _, _, _, h, _ => h.elim
 | .ov _ _ _ _ :: _, _, _, h, _ => h.elim
 | .fn _ _ :: _, _, _, h, _ => h.elim
 | .dead :: _, _, _, h, _ => h.elim
theorem Ax6 {l : List SV} {cs : List PV} {n : Nat} (h : Aj9 l cs) : Imp (.vec n cs) (.agg l) := by
 intro V ρ v hv;simp only [Conc] at hv ⊢;obtain ⟨vs, rfl, _, hp⟩ := hv;exact ⟨vs, rfl, Tf h hp⟩
def Ail (a b : Vc) (k : Nat) : FS := mk [(8, .pv (.i .i64 k)), (7, .vec 8 (vE a)), (4, .pv (.b false)), (3, .p 3 0)] [(3, some (.var (.vec 8 (vE b))))]
theorem A0f (a b : Vc) {h d} : FunOk Tryz.prog 58 [.vec 8 (vE a), .vec 8 (vE b)] h d (.pv (.b (decide (Um a b)))) [] := by
 refine Am Af fn58 (by simp) rfl rfl fun F => ?_;simp (disch := omega) only [ir58, go_sem];refine Az Af (Ail a b) (fun k => k ≤ 8 ∧ ∀ i, i < k → a i ≤ b i) (fun k => 8 - k) 0 (by simp) (Ah ?_ ?_) fun k hk => ?_
 · simp (disch := omega) only [go_sem]
 · simp (disch := omega) only [go_sem]
 obtain ⟨hk, hle⟩ := hk;by_cases hlt : k < 8
 · by_cases hc : a k ≤ b k
   · simp (disch := omega) only [Ail, go_sem];refine Ad (k + 1) _ _ rfl ⟨by omega, fun i hi => ?_⟩ (by omega) ?_ ?_
     · by_cases e : i = k
       · subst e; exact hc
       · exact hle i (by omega)
     · simp (disch := omega) only [go_sem]
     · simp (disch := omega) only [go_sem]
   · have hn : ¬ Um a b := fun h => hc (h k hlt);simp (disch := omega) only [Ail, hn, go_sem]
 · have hn : Um a b := fun i hi => hle i (by omega);simp (disch := omega) only [Ail, hn, go_sem]
theorem Us (g : SlI) (h : g.ok) : Imp (.pv g.pv) (.pv (.sl g.f 2 (g.l.map Eb))) := S4 (Hc id (h.imp (fun e => by rw [e]; rfl) id) (.refl _))
def R3 (r : Int) (q : Nat) (s : List UInt8) : Ver := ⟨r, q, s, fun _ => 0⟩
theorem Aic (r : Int) (q : Nat) (s : List UInt8) : Imp (.agg [.vec 2 [.i .i64 r, .i .u32 q], .pv (.s s), .vec 8 (vE fun _ => 0)]) (.vec 11 (Bb (R3 r q s))) := Gu (by rfl) (Ha _)
theorem Aw5 {l : List Ver} {g : SlI} {r : Int} {q : Nat} {s : List UInt8} {h d} (hg : g.ok) (hs : Cv l) (hn : l.length ≤ 900) (hbn : g.l.length ≤ 900) (hm : ¬ Dg l g.l) (ho : Bp l r q = none) :
 FunOk Tryz.prog 141 [.pv (.sl false 11 (l.map Bb)), .pv g.pv, .agg [.vec 2 [.i .i64 r, .i .u32 q], .pv (.s s), .vec 8 (vE fun _ => 0)]] h d (.tup [.pv (.sl false 11 ((Fl l g.l (R3 r q s)).map Bb)), .pv (.i .i64 0)]) [] := by
 refine FunOk.imp (args' := [.pv (.sl false 11 (l.map Bb)), .pv (.sl g.f 2 (g.l.map Eb)), .vec 11 (Bb (R3 r q s))]) ?_ ⟨Imp.refl _, Us g hg, Aic r q s, trivial⟩ (by simp [A5, tn]);refine Zi Af fn141 (by simp) rfl rfl fun F => ?_;exact Aj8 hs hn hbn (fun h => absurd h hm) (fun _ h => by
  have ho' : Bp l (R3 r q s).rep (R3 r q s).seq = none := ho;rw [ho'] at h; cases h) (fun _ _ g n hg => .inl ⟨n, rfl, hg⟩)
theorem Adq {l : List Ver} {g : SlI} {r : Int} {q : Nat} {s : List UInt8} {h d} (hg : g.ok) (hs : Cv l) (hn : l.length ≤ 900) (hbn : g.l.length ≤ 900) (hm : Dg l g.l) :
 FunOk Tryz.prog 141 [.pv (.sl false 11 (l.map Bb)), .pv g.pv, .agg [.vec 2 [.i .i64 r, .i .u32 q], .pv (.s s), .vec 8 (vE fun _ => 0)]] h d (.tup [.pv (.sl true 0 []), .pv (.i .i64 2)]) [] := by
 refine FunOk.imp (args' := [.pv (.sl false 11 (l.map Bb)), .pv (.sl g.f 2 (g.l.map Eb)), .vec 11 (Bb (R3 r q s))]) ?_ ⟨Imp.refl _, Us g hg, Aic r q s, trivial⟩ (by simp [A5, tn]);exact Agj rfl rfl hs hn hbn hm
def Ek (e : Evt) : Bn := match e.base.l with
 | [] => (0, 0)
 | b :: _ => b
def Ff (l : List Ver) (e : Evt) : List UInt8 :=
 if e.kind = 5 then e.data
 else if e.kind = 4 then Ot (D0 l (Ek e).1 (Ek e).2).1 e.off.toNat
 else I0 (D0 l (Ek e).1 (Ek e).2).1 e.off.toNat e.data
structure FitsW (l : List Ver) (e : Evt) : Prop where
 k : e.kind = 3 ∨ e.kind = 4 ∨ e.kind = 5
 off : e.kind ≠ 5 → 0 ≤ e.off ∧ e.off ≤ 200
 len : e.kind = 3 → e.off + e.data.length ≤ 200
 data : ∀ v ∈ l, v.data.length ≤ 200
theorem Zo {l : List Ver} (h : ∀ v ∈ l, v.data.length ≤ 200) (r : Int) (q : Nat) : (D0 l r q).1.length ≤ 200 := by
 unfold D0;split
 · simp
 · split
   · rename_i v hv; exact h v (Zk hv).1
   · simp
theorem Zp (l : List Ver) (r : Int) (q : Nat) : (D0 l r q).2 = 0 ∨ (D0 l r q).2 = 2 := by
 unfold D0;split
 · exact .inl rfl
 · split
   · exact .inl rfl
   · exact .inr rfl
set_option maxHeartbeats 2000000 in
theorem Ai8 {l : List Ver} {e : Evt} (he : ev e) (hf : FitsW l e) (hs : Cv l) (hn : l.length ≤ 900) {h d} :
 FunOk Tryz.prog 140 [.pv (.sl false 11 (l.map Bb)), .vec 21 (Bd e)] h d (if e.kind = 5 ∨ (D0 l (Ek e).1 (Ek e).2).2 = 0 then .tup [.pv (.s (Ff l e)), .pv (.i .i64 0)] else .tup [.pv (.s []), .pv (.i .i64 2)]) [] := by
 refine Am Af fn140 (by simp) rfl (by split <;> rfl) fun F => ?_;by_cases h5 : e.kind = 5
 · rw [if_pos (.inl h5)];have hb : Ff l e = e.data := if_pos h5;simp (disch := omega) only [ir140, Ag, h5, Hf, hb, go_sem]
 · have hz : (if e.kind = 5 ∨ (D0 l (Ek e).1 (Ek e).2).2 = 0 then (SV.tup [.pv (.s (Ff l e)), .pv (.i .i64 0)]) else .tup [.pv (.s []), .pv (.i .i64 2)]) = if (D0 l (Ek e).1 (Ek e).2).2 = 0 then (SV.tup [.pv (.s (Ff l e)), .pv (.i .i64 0)]) else .tup [.pv (.s []), .pv (.i .i64 2)] := by
    by_cases hd : (D0 l (Ek e).1 (Ek e).2).2 = 0
    · rw [if_pos (.inr hd), if_pos hd]
    · rw [if_neg (fun q => q.elim h5 hd), if_neg hd]
   rw [hz];have hoff := hf.off h5;have hdl := Zo hf.data (Ek e).1 (Ek e).2;have hpv : e.base.pv = .sl e.base.f e.base.z (e.base.l.map Eb) := rfl;cases hbl : e.base.l with
   | nil =>
     obtain ⟨b, hb⟩ : ∃ b : Bn, b = (0, 0) := ⟨_, rfl⟩
     have hbi : Ek e = b := by unfold Ek; rw [hbl, hb]
     simp (disch := omega) only [ir140, Ag, h5, Fi, hpv, hbl, List.map_nil, go_sem];rw [hbi] at hdl ⊢;have hde := Zp l b.1 b.2;have hbv : Ff l e = if e.kind = 4 then Ot (D0 l b.1 b.2).1 e.off.toNat else I0 (D0 l b.1 b.2).1 e.off.toNat e.data := by unfold Ff; rw [if_neg h5, hbi]
     refine Aa (FunOk.imp (Aqx (l := l) b.1 b.2 rfl rfl hs (by omega)) ⟨Imp.refl _, by subst hb; exact Gu (by rfl) rfl, trivial⟩ (by simp [A5, tn])) ?_;generalize D0 l b.1 b.2 = w at *;by_cases hw : w.2 = 0
     · rw [if_pos hw];by_cases h4 : e.kind = 4
       · rw [if_pos h4] at hbv;have hc := Le (data := w.1) (n := e.off) (by omega);simp (disch := omega) only [hw, Ag, h4, Jd, go_sem];refine Aa (A0h w.1 e.off (by omega)) ?_;simp (disch := omega) only [hc, hbv, go_sem]
       · rw [if_neg h4] at hbv;have h3 : e.kind = 3 := by have := hf.k; omega
         have hl := hf.len h3;have hc := Ji (data := w.1) (off := e.off) (s := e.data) (by unfold D7; omega);simp (disch := omega) only [hw, Ag, h4, Jd, Hf, go_sem];refine Aa (Ai0 w.1 e.data e.off) ?_;simp (disch := omega) only [hc, hbv, go_sem]
     · rw [if_neg hw];have hw2 := hde.resolve_left hw;simp (disch := omega) only [hw2, go_sem]
   | cons b t =>
     have hbi : Ek e = b := by unfold Ek; rw [hbl]
     have hok : e.base.z = 2 := he.2.1.resolve_left (by rw [hbl]; simp);have h0 : (List.map Eb (b :: t))[0]? = some (Eb b) := rfl;have hpos : (0 : Int) < ((t.length : Int) + 1) := by omega
     simp (disch := omega) only [ir140, Ag, h5, Fi, hpv, hbl, hok, List.length_map, h0, Ej, go_sem];rw [hbi] at hdl ⊢;have hde := Zp l b.1 b.2;have hbv : Ff l e = if e.kind = 4 then Ot (D0 l b.1 b.2).1 e.off.toNat else I0 (D0 l b.1 b.2).1 e.off.toNat e.data := by unfold Ff; rw [if_neg h5, hbi]
     refine Aa (FunOk.imp (Aqx (l := l) b.1 b.2 rfl rfl hs (by omega)) ⟨Imp.refl _, Imp.refl _, trivial⟩ (by simp [A5, tn])) ?_;generalize D0 l b.1 b.2 = w at *;by_cases hw : w.2 = 0
     · rw [if_pos hw];by_cases h4 : e.kind = 4
       · rw [if_pos h4] at hbv;have hc := Le (data := w.1) (n := e.off) (by omega);simp (disch := omega) only [hw, Ag, h4, Jd, go_sem];refine Aa (A0h w.1 e.off (by omega)) ?_;simp (disch := omega) only [hc, hbv, go_sem]
       · rw [if_neg h4] at hbv;have h3 : e.kind = 3 := by have := hf.k; omega
         have hl := hf.len h3;have hc := Ji (data := w.1) (off := e.off) (s := e.data) (by unfold D7; omega);simp (disch := omega) only [hw, Ag, h4, Jd, Hf, go_sem];refine Aa (Ai0 w.1 e.data e.off) ?_;simp (disch := omega) only [hc, hbv, go_sem]
     · rw [if_neg hw];have hw2 := hde.resolve_left hw;simp (disch := omega) only [hw2, go_sem]
abbrev Ak (e : Evt) : Bn := (e.rep, e.seq)
abbrev Ay (e : Evt) : Bn := (e.orep, e.oseq)
abbrev Hk (e : Evt) : Bn := (e.drep, e.dseq)
theorem Zb {l : List Obj} (hs : El l) {i : Bn} {o : Obj} (h : l[Bs l i]? = some o) (ho : o.id = i) : isO l i = true := by
 rw [Qz hs, h]; simp [ho]
theorem Atu {l : List Ver} {e : Evt} (h : ¬ Dg l e.base.l) : (D0 l (Ek e).1 (Ek e).2).2 = 0 := by
 have key : ∀ b : Bn, (b = (0, 0) ∨ b ∈ e.base.l) → (D0 l b.1 b.2).2 = 0 := fun b hb => by
  by_cases hz : b.1 = 0 ∧ b.2 = 0
  · rw [Rf hz]
  · cases hv : Bp l b.1 b.2 with
    | some v => rw [Ma hz hv]
    | none =>
      rcases hb with rfl | hb
      · exact absurd ⟨rfl, rfl⟩ hz
      · exact absurd ⟨b, hb, hv⟩ h
 refine key _ ?_;unfold Ek;cases e.base.l with
 | nil => exact .inl rfl
 | cons b t => exact .inr List.mem_cons_self
structure StOk (s : St) : Prop where
 fine : Fine s
 so : El s.objs
 se : Ds s.ents
structure VerOk (o : Obj) (e : Evt) : Prop where
 sv : Cv o.vers
 fw : FitsW o.vers e
 new : Bp o.vers e.rep e.seq = none
 bl : e.base.l.length ≤ 900
theorem B0 {rs : List Rv} {R : SV → FS → Prop} {s : FS} (h : Ls s rs fun l => R (one l) s) : X8 rs R s := ⟨s, .same s, h⟩
theorem Q6 {l : List Obj} {k : Nat} {o : Obj} (h : l[k]? = some o) : (l.map Ap).getD k [] = Ap o := by
 rw [List.getD_eq_getElem?_getD, List.getElem?_map, h]; rfl
def wrO (s : St) (e : Evt) (o : Obj) : List Obj := s.objs.set (Bs s.objs (Ay e)) { o with vers := Fl o.vers e.base.l (R3 e.rep e.seq (Ff o.vers e)) }
def Jg (s : St) : SV := .agg (A3 s (.os 38) (Fc s))
theorem D3 (s : St) : ∀ n ∈ tn (Jg s), n = 6 ∨ n = 38 := fun n hn => by
 simp [Jg, A3, Fc, tn, A5] at hn; exact .inr hn
set_option maxHeartbeats 4000000 in
theorem A61 {s : St} {e : Evt} {o : Obj} (hs : StOk s) (he : ev e) (ho : s.objs[Bs s.objs (Ay e)]? = some o) (hid : o.id = Ay e) (hd : o.dir = false) (hv : VerOk o e) (hm : ¬ Dg o.vers e.base.l) {h d}
 (hg : h 6 = some (.var (Jg s))) (h38 : h 38 = some (.row 15 (s.objs.map Ap))) :
 DeepOk Tryz.prog 106 [.p 6 0, .vec 21 (Bd e)] h d (.pv (.i .i64 0)) [.new 38 (.row 15 ((wrO s e o).map Ap)), .upd 6 (.var (Jg s))] := by
 refine Ev Af fn106 (by simp) hg h38 (by decide) rfl (D3 s) fun F => ?_;have hk := hv.fw.k;have n8 : ¬ e.kind = 8 := by omega
 have n9 : ¬ e.kind = 9 := by omega
 have n1 : ¬ e.kind = 1 := by omega
 have n2 : ¬ e.kind = 2 := by omega
 have n6 : ¬ e.kind = 6 := by omega
 have n7 : ¬ e.kind = 7 := by omega
 have hi := Zb hs.so ho hid;have hlt := (List.getElem?_eq_some_iff.1 ho).1;have hel : (s.objs.map Ap)[Bs s.objs (Ay e)]? = some (Ap o) := by rw [List.getElem?_map, ho]; rfl
 have hgd := Q6 ho;have a1 := hs.fine.on;have a2 := hs.fine.ov o (List.mem_of_getElem? ho);have hb := Ai8 he hv.fw hv.sv (by omega) (h := fun _ => none) (d := 0);rw [if_pos (.inr (Atu hm))] at hb;simp (disch := omega) only [ir106, Jg, A3, Fc, Ag, n8, n9, n1, n2, A8, go_sem];refine Aa (M5 (l := s.objs) (Ay e) rfl rfl hs.so (by omega)) ?_;simp (disch := omega) only [hi, List.length_map, n6, n7, Ag, hel, Es, hd, E2, Bg, go_sem];refine Aa (hb.at (by simp [A5, tn])) ?_;simp (disch := omega) only [hel, E2, Fi, Aw, go_sem];have hpv : e.base.pv = .sl e.base.f e.base.z (e.base.l.map Eb) := rfl;have hA := Aw5 (g := e.base) (r := e.rep) (q := e.seq) (s := Ff o.vers e) he.2.1 hv.sv (by omega) hv.bl hm hv.new (h := fun _ => none) (d := 0);refine Aa (hA.at (by simp [A5, tn, hpv])) ?_;have hsp := Acv o false 11 (Fl o.vers e.base.l (R3 e.rep e.seq (Ff o.vers e)));have hset : (s.objs.map Ap).set (Bs s.objs (Ay e)) (E9 false 11 { o with vers := Fl o.vers e.base.l (R3 e.rep e.seq (Ff o.vers e)) }) = (wrO s e o).map Ap := by
  unfold wrO; rw [List.map_set]; rfl
 simp (disch := omega) only [hgd, hsp, List.length_map, hset, go_sem];refine B0 ?_;simp (disch := omega) only [go_sem]
def Z4 (s : St) (e : Evt) (n : Int) : Prop := ∀ (h : Nat → Option Blk) (d : Nat), h 6 = some (.var (Jg s)) → h 38 = some (.row 15 (s.objs.map Ap)) → ∃ r X, DeepOk Tryz.prog 106 [.p 6 0, .vec 21 (Bd e)] h d (.pv (.i .i64 n)) [.new 38 (.row 15 r), .upd 6 (.var X)]
set_option maxHeartbeats 4000000 in
theorem Agi {s : St} {e : Evt} {o : Obj} (hs : StOk s) (he : ev e) (ho : s.objs[Bs s.objs (Ay e)]? = some o) (hid : o.id = Ay e) (hd : o.dir = false) (hv : VerOk o e) (hm : Dg o.vers e.base.l) : Z4 s e 2 := by
 intro h d hg h38;have hk := hv.fw.k;have n8 : ¬ e.kind = 8 := by omega
 have n9 : ¬ e.kind = 9 := by omega
 have n1 : ¬ e.kind = 1 := by omega
 have n2 : ¬ e.kind = 2 := by omega
 have n6 : ¬ e.kind = 6 := by omega
 have n7 : ¬ e.kind = 7 := by omega
 have hi := Zb hs.so ho hid;have hlt := (List.getElem?_eq_some_iff.1 ho).1;have hel : (s.objs.map Ap)[Bs s.objs (Ay e)]? = some (Ap o) := by rw [List.getElem?_map, ho]; rfl
 have hgd := Q6 ho;have a1 := hs.fine.on;have a2 := hs.fine.ov o (List.mem_of_getElem? ho);have hb := Ai8 he hv.fw hv.sv (by omega) (h := fun _ => none) (d := 0);by_cases hq : e.kind = 5 ∨ (D0 o.vers (Ek e).1 (Ek e).2).2 = 0
 · rw [if_pos hq] at hb;refine ⟨(s.objs.map Ap).set (Bs s.objs (Ay e)) (splice (Ap o) 14 [.sl true 0 []]), Jg s, Ev Af fn106 (by simp) hg h38 (by decide) rfl (D3 s) fun F => ?_⟩;simp (disch := omega) only [ir106, Jg, A3, Fc, Ag, n8, n9, n1, n2, A8, go_sem];refine Aa (M5 (l := s.objs) (Ay e) rfl rfl hs.so (by omega)) ?_;simp (disch := omega) only [hi, List.length_map, n6, n7, Ag, hel, Es, hd, E2, Bg, go_sem];refine Aa (hb.at (by simp [A5, tn])) ?_;simp (disch := omega) only [hel, E2, Fi, Aw, go_sem];have hpv : e.base.pv = .sl e.base.f e.base.z (e.base.l.map Eb) := rfl;have hA := Adq (g := e.base) (r := e.rep) (q := e.seq) (s := Ff o.vers e) he.2.1 hv.sv (by omega) hv.bl hm (h := fun _ => none) (d := 0);refine Aa (hA.at (by simp [A5, tn, hpv])) ?_;simp (disch := omega) only [hgd, List.length_map, go_sem];refine B0 ?_;simp (disch := omega) only [go_sem]
 · rw [if_neg hq] at hb;refine ⟨s.objs.map Ap, Jg s, Ev Af fn106 (by simp) hg h38 (by decide) rfl (D3 s) fun F => ?_⟩;simp (disch := omega) only [ir106, Jg, A3, Fc, Ag, n8, n9, n1, n2, A8, go_sem];refine Aa (M5 (l := s.objs) (Ay e) rfl rfl hs.so (by omega)) ?_;simp (disch := omega) only [hi, List.length_map, n6, n7, Ag, hel, Es, hd, E2, Bg, go_sem];refine Aa (hb.at (by simp [A5, tn])) ?_;simp (disch := omega) only [go_sem];refine B0 ?_;simp (disch := omega) only [go_sem]
theorem Aqs {s : St} {e : Evt} {o : Obj} (hs : StOk s) (hk : e.kind = 3 ∨ e.kind = 4 ∨ e.kind = 5) (ho : s.objs[Bs s.objs (Ay e)]? = some o) (hid : o.id = Ay e) (hd : o.dir = true) : Z4 s e 23 := by
 intro h d hg h38;have n8 : ¬ e.kind = 8 := by omega
 have n9 : ¬ e.kind = 9 := by omega
 have n1 : ¬ e.kind = 1 := by omega
 have n2 : ¬ e.kind = 2 := by omega
 have n6 : ¬ e.kind = 6 := by omega
 have n7 : ¬ e.kind = 7 := by omega
 have hi := Zb hs.so ho hid;have hlt := (List.getElem?_eq_some_iff.1 ho).1;have hel : (s.objs.map Ap)[Bs s.objs (Ay e)]? = some (Ap o) := by rw [List.getElem?_map, ho]; rfl
 have a1 := hs.fine.on;refine ⟨s.objs.map Ap, Jg s, Ev Af fn106 (by simp) hg h38 (by decide) rfl (D3 s) fun F => ?_⟩;simp (disch := omega) only [ir106, Jg, A3, Fc, Ag, n8, n9, n1, n2, A8, go_sem];refine Aa (M5 (l := s.objs) (Ay e) rfl rfl hs.so (by omega)) ?_;simp (disch := omega) only [hi, List.length_map, n6, n7, Ag, hel, Es, hd, E2, Bg, go_sem];refine B0 ?_;simp (disch := omega) only [go_sem]
theorem Alj {s : St} {e : Evt} (hs : StOk s) (hk : e.kind = 3 ∨ e.kind = 4 ∨ e.kind = 5 ∨ e.kind = 6 ∨ e.kind = 7) (hi : isO s.objs (Ay e) = false) : Z4 s e 2 := by
 intro h d hg h38;have n8 : ¬ e.kind = 8 := by omega
 have n9 : ¬ e.kind = 9 := by omega
 have n1 : ¬ e.kind = 1 := by omega
 have n2 : ¬ e.kind = 2 := by omega
 have a1 := hs.fine.on;refine ⟨s.objs.map Ap, Jg s, Ev Af fn106 (by simp) hg h38 (by decide) rfl (D3 s) fun F => ?_⟩;simp (disch := omega) only [ir106, Jg, A3, Fc, Ag, n8, n9, n1, n2, A8, go_sem];refine Aa (M5 (l := s.objs) (Ay e) rfl rfl hs.so (by omega)) ?_;simp (disch := omega) only [hi, go_sem];refine B0 ?_;simp (disch := omega) only [go_sem]
theorem M4 {s : St} (i : Bn) {h d} (hs : El s.objs) (hn : s.objs.length ≤ 1000) (h38 : h 38 = some (.row 15 (s.objs.map Ap))) :
 FunOk Tryz.prog 135 [.agg [.vec 8 (vE s.known), .os 38, .pv (.sl false 15 (s.ents.map Bm)), .vec 8 (iE s.wards), .vec 8 (wE s.ret)], .vec 2 [.i .i64 i.1, .i .u32 i.2]] h d (.pv (.i .i64 (Ku s.objs i))) [] :=
 FunOk.lend (n := 38) (h' := h) (d' := d) h38 (by simp [A5, tn]) (by simp [A5, tn, SV.frz, SV.frzL]) rfl (Aqp (s := s) i hs hn)
def W0 (e : Evt) : Obj := ⟨Ak e, decide (e.kind = 2), Ak e, e.name, fun _ => 0, []⟩
def Gi (e : Evt) (obj : Bn) : Ent := ⟨Ak e, Hk e, e.name, obj, fun _ => 0⟩
theorem Ay0 (e : Evt) (obj : Bn) : Imp (.agg [.vec 2 [.i .i64 e.rep, .i .u32 e.seq], .vec 2 [.i .i64 e.drep, .i .u32 e.dseq], .pv (.s e.name), .vec 2 [.i .i64 obj.1, .i .u32 obj.2], .vec 8 (vE fun _ => 0)]) (.vec 15 (Bm (Gi e obj))) := Gu (by rfl) (Dr _)
theorem Aa9 {l : List Ent} (e : Evt) (obj : Bn) {h d} (hs : Ds l) (hn : l.length ≤ 1000) :
 FunOk Tryz.prog 138 [.pv (.sl false 15 (l.map Bm)), .agg [.vec 2 [.i .i64 e.rep, .i .u32 e.seq], .vec 2 [.i .i64 e.drep, .i .u32 e.dseq], .pv (.s e.name), .vec 2 [.i .i64 obj.1, .i .u32 obj.2], .vec 8 (vE fun _ => 0)]] h d (.os d) [.new d (.row 15 ((Rp l (Gi e obj)).map Bm))] :=
 FunOk.imp (A20 (l := l) (Gi e obj) rfl rfl hs hn) ⟨Imp.refl _, Ay0 e obj, trivial⟩ (by simp [A5, tn])
set_option maxHeartbeats 4000000 in
theorem All {s : St} {e : Evt} (hs : StOk s) (hk : e.kind = 1 ∨ e.kind = 2) (hd : Ku s.objs (Hk e) ≠ 0) : Z4 s e (Ku s.objs (Hk e)) := by
 intro h d hg h38;have n8 : ¬ e.kind = 8 := by omega
 have n9 : ¬ e.kind = 9 := by omega
 have a1 := hs.fine.on;refine ⟨s.objs.map Ap, Jg s, Ev Af fn106 (by simp) hg h38 (by decide) rfl (D3 s) fun F => ?_⟩;rcases hk with hk | hk
 all_goals
  simp (disch := omega) only [ir106, Jg, A3, Fc, Ag, n8, n9, hk, Dh, go_sem];refine Aa (M4 (s := s) (Hk e) hs.so (by omega) rfl) ?_;simp (disch := omega) only [hd, go_sem];refine B0 ?_;simp (disch := omega) only [go_sem]
def mkS (s : St) (e : Evt) : St := { s with objs := s.objs.take (Bs s.objs (Ak e)) ++ W0 e :: s.objs.drop (Bs s.objs (Ak e)), ents := Rp s.ents (Gi e (Ak e)) }
set_option maxHeartbeats 4000000 in
theorem A62 {s : St} {e : Evt} (hs : StOk s) (hk : e.kind = 1 ∨ e.kind = 2) (hd : Ku s.objs (Hk e) = 0) {h d}
 (hg : h 6 = some (.var (Jg s))) (h38 : h 38 = some (.row 15 (s.objs.map Ap))) :
 DeepOk Tryz.prog 106 [.p 6 0, .vec 21 (Bd e)] h d (.pv (.i .i64 0)) [.new 38 (.row 15 ((s.objs.map Ap).take (Bs s.objs (Ak e)) ++ E9 true 0 (W0 e) :: (s.objs.map Ap).drop (Bs s.objs (Ak e)))), .upd 6 (.var (Jg (mkS s e)))] := by
 have n8 : ¬ e.kind = 8 := by omega
 have n9 : ¬ e.kind = 9 := by omega
 have a1 := hs.fine.on;have a3 := hs.fine.en;refine Ev Af fn106 (by simp) hg h38 (by decide) rfl (D3 _) fun F => ?_;rcases hk with hk | hk
 · skip
   simp (disch := omega) only [ir106, Jg, A3, Fc, Ag, n8, n9, hk, Dh, go_sem];refine Aa (M4 (s := s) (Hk e) hs.so (by omega) rfl) ?_;simp (disch := omega) only [hd, Aw, go_sem];refine Aa (M5 (l := s.objs) (Ak e) rfl rfl hs.so (by omega)) ?_;have hN : ∀ b, b = decide (e.kind = 2) → (PV.i .i64 e.rep :: .i .u32 e.seq :: .b b :: .i .i64 e.rep :: .i .u32 e.seq :: .s e.name :: ((vE fun _ => 0) ++ [.sl true 0 []])) = E9 true 0 (W0 e) := fun b hb => by subst hb; rfl
   have hN := hN false (by simp [hk]);have hl9 : ((vE fun _ => 0) ++ [PV.sl true 0 []]).length = 9 := by simp [Bi]
   simp (disch := omega) only [Aw, Ag, hk, Du, hN, hl9, Ee, go_sem];have hp := Lt s.objs (Ak e);refine Aa (Aqn (m := 38) (n := 75) (s.objs.map Ap) (E9 true 0 (W0 e)) (Bs s.objs (Ak e)) (by simpa using hp) (by simp; omega) (Y1 _) (Ee _ _ _) (by decide) (by decide) (by decide) (by decide) rfl rfl) ?_;simp (disch := omega) only [Aw, Dh, Du, go_sem];refine Aa (Aa9 (l := s.ents) e (Ak e) hs.se (by omega)) ?_;simp (disch := omega) only [go_sem];refine ⟨_, Ec 93 rfl (D5 76 38 (by decide) rfl (.same _)), ?_⟩
   (try simp only [Cg, Cf, Ce, Cd, Cc, Cb, Ca, B9]); simp (disch := omega) only [mkS, go_sem]
 · skip
   simp (disch := omega) only [ir106, Jg, A3, Fc, Ag, n8, n9, hk, Dh, go_sem];refine Aa (M4 (s := s) (Hk e) hs.so (by omega) rfl) ?_;simp (disch := omega) only [hd, Aw, go_sem];refine Aa (M5 (l := s.objs) (Ak e) rfl rfl hs.so (by omega)) ?_;have hN : ∀ b, b = decide (e.kind = 2) → (PV.i .i64 e.rep :: .i .u32 e.seq :: .b b :: .i .i64 e.rep :: .i .u32 e.seq :: .s e.name :: ((vE fun _ => 0) ++ [.sl true 0 []])) = E9 true 0 (W0 e) := fun b hb => by subst hb; rfl
   have hN := hN true (by simp [hk]);have hl9 : ((vE fun _ => 0) ++ [PV.sl true 0 []]).length = 9 := by simp [Bi]
   simp (disch := omega) only [Aw, Ag, hk, Du, hN, hl9, Ee, go_sem];have hp := Lt s.objs (Ak e);refine Aa (Aqn (m := 38) (n := 75) (s.objs.map Ap) (E9 true 0 (W0 e)) (Bs s.objs (Ak e)) (by simpa using hp) (by simp; omega) (Y1 _) (Ee _ _ _) (by decide) (by decide) (by decide) (by decide) rfl rfl) ?_;simp (disch := omega) only [Aw, Dh, Du, go_sem];refine Aa (Aa9 (l := s.ents) e (Ak e) hs.se (by omega)) ?_;simp (disch := omega) only [go_sem];refine ⟨_, Ec 93 rfl (D5 76 38 (by decide) rfl (.same _)), ?_⟩
   (try simp only [Cg, Cf, Ce, Cd, Cc, Cb, Ca, B9]); simp (disch := omega) only [mkS, go_sem]
def Ih (s : St) (e : Evt) : St := { s with wards := Dp s.wards (e.rep - 1).toNat e.ward }
def Ok (s : St) (e : Evt) : St := { s with ret := Dp s.ret (e.rep - 1).toNat true }
theorem V9 (s : St) {k : Nat} (hk : k < 8) (n : Int) (a b : PV) : splice (vE s.known ++ a :: b :: (iE s.wards ++ wE s.ret)) (10 + k) [.i .i64 n] = vE s.known ++ a :: b :: (iE (Dp s.wards k n) ++ wE s.ret) := by
 rw [← Yo hk];simp only [splice, vE, iE, wE, Ch];have hk2 : k = 0 ∨ k = 1 ∨ k = 2 ∨ k = 3 ∨ k = 4 ∨ k = 5 ∨ k = 6 ∨ k = 7 := by omega
 rcases hk2 with rfl | rfl | rfl | rfl | rfl | rfl | rfl | rfl <;> rfl
theorem Aar (s : St) {k : Nat} (hk : k < 8) (n : Bool) (a b : PV) : splice (vE s.known ++ a :: b :: (iE s.wards ++ wE s.ret)) (18 + k) [.b n] = vE s.known ++ a :: b :: (iE s.wards ++ wE (Dp s.ret k n)) := by
 rw [← Yn hk];simp only [splice, vE, iE, wE, Ch];have hk2 : k = 0 ∨ k = 1 ∨ k = 2 ∨ k = 3 ∨ k = 4 ∨ k = 5 ∨ k = 6 ∨ k = 7 := by omega
 rcases hk2 with rfl | rfl | rfl | rfl | rfl | rfl | rfl | rfl <;> rfl
theorem R9 (s : St) : Imp (.vec 26 (vE s.known ++ .sl false 15 (s.objs.map Ap) :: .sl false 15 (s.ents.map Bm) :: (iE s.wards ++ wE s.ret))) (.agg (A7 s)) :=
 Ax6 ⟨Bi _, _, rfl, _, rfl, _, rfl, S6 _, _, rfl, R2 _, [], by simp, rfl⟩
theorem Alk {s : St} {e : Evt} (hk : e.kind = 8) (hr : 1 ≤ e.rep ∧ e.rep ≤ 8) {h d} (hg : h 6 = some (.var (.agg (A7 s)))) :
 FunOk Tryz.prog 106 [.p 6 0, .vec 21 (Bd e)] h d (.pv (.i .i64 0)) [.upd 6 (.var (.agg (A7 (Ih s e))))] := by
 refine Ia (g := 6) Af fn106 (by simp) (by simp [A5, tn]) (by simp [A5, tn]) hg rfl (by simp [Blk.ptr, SV.kill]) rfl (fun _ => rfl) fun F => ?_;obtain ⟨k, hk8, hre⟩ : ∃ k : Nat, k < 8 ∧ e.rep - 1 = k := ⟨(e.rep - 1).toNat, by omega, by omega⟩
 have hS : Ih s e = { s with wards := Dp s.wards k e.ward } := by unfold Ih; rw [hre]; rfl
 have hsp := V9 s hk8 e.ward (.sl false 15 (s.objs.map Ap)) (.sl false 15 (s.ents.map Bm));rw [hS];simp (disch := omega) only [ir106, A7, A3, Blk.ptr, Ag, hk, Db, U0, hre, hsp, go_sem];refine ⟨mk [(4, .pv (.i .i64 0)), (1000000, .p 6 0)] [(6, some (.var (.agg (A7 { s with wards := Dp s.wards k e.ward }))))], Ah ?_ ?_, ?_⟩
 · simp (disch := omega) only [go_sem]
 · simp (disch := omega) only [go_sem];exact ⟨R9 { s with wards := Dp s.wards k e.ward }, rfl⟩
 (try simp only [Cg, Cf, Ce, Cd, Cc, Cb, Ca, B9]); simp (disch := omega) only [go_sem]
 exact ⟨6, rfl, rfl⟩
theorem Aqu {s : St} {e : Evt} (hk : e.kind = 9) (hr : 1 ≤ e.rep ∧ e.rep ≤ 8) {h d} (hg : h 6 = some (.var (.agg (A7 s)))) :
 FunOk Tryz.prog 106 [.p 6 0, .vec 21 (Bd e)] h d (.pv (.i .i64 0)) [.upd 6 (.var (.agg (A7 (Ok s e))))] := by
 refine Ia (g := 6) Af fn106 (by simp) (by simp [A5, tn]) (by simp [A5, tn]) hg rfl (by simp [Blk.ptr, SV.kill]) rfl (fun _ => rfl) fun F => ?_;obtain ⟨k, hk8, hre⟩ : ∃ k : Nat, k < 8 ∧ e.rep - 1 = k := ⟨(e.rep - 1).toNat, by omega, by omega⟩
 have hS : Ok s e = { s with ret := Dp s.ret k true } := by unfold Ok; rw [hre]; rfl
 have hsp := Aar s hk8 true (.sl false 15 (s.objs.map Ap)) (.sl false 15 (s.ents.map Bm));rw [hS];simp (disch := omega) only [ir106, A7, A3, Blk.ptr, Ag, hk, Db, hre, hsp, go_sem];refine ⟨mk [(4, .pv (.i .i64 0)), (1000000, .p 6 0)] [(6, some (.var (.agg (A7 { s with ret := Dp s.ret k true }))))], Ah ?_ ?_, ?_⟩
 · simp (disch := omega) only [go_sem]
 · simp (disch := omega) only [go_sem];exact ⟨R9 { s with ret := Dp s.ret k true }, rfl⟩
 (try simp only [Cg, Cf, Ce, Cd, Cc, Cb, Ca, B9]); simp (disch := omega) only [go_sem]
 exact ⟨6, rfl, rfl⟩
theorem Air (s : St) (es : List (List PV)) : Blk.frz 38 (.sl false 15 es) (.var (Jg s)) = .var (.agg (A3 s (.pv (.sl false 15 es)) (Fc s))) := by
 simp [Jg, A3, Fc, Blk.frz, SV.frz, SV.frzL]
theorem Aqt {s : St} {e : Evt} (hk : e.kind = 8) (hr : 1 ≤ e.rep ∧ e.rep ≤ 8) {h d} (hg : h 6 = some (.var (Jg s))) (h38 : h 38 = some (.row 15 (s.objs.map Ap))) :
 DeepOk Tryz.prog 106 [.p 6 0, .vec 21 (Bd e)] h d (.pv (.i .i64 0)) [.frz 38 (.sl false 15 (s.objs.map Ap)), .upd 6 (.var (.agg (A7 (Ih s e))))] :=
 DeepOk.frz (args' := [.p 6 0, .vec 21 (Bd e)]) (h' := fun k => if k = 38 then none else (h k).map (Blk.frz 38 (.sl false 15 (s.objs.map Ap)))) (d' := d) h38 rfl (fun k _ => rfl) (Alk hk hr (by show (h 6).map _ = _; rw [hg, Option.map_some, Air]; rfl))
theorem Aw1 {s : St} {e : Evt} (hk : e.kind = 9) (hr : 1 ≤ e.rep ∧ e.rep ≤ 8) {h d} (hg : h 6 = some (.var (Jg s))) (h38 : h 38 = some (.row 15 (s.objs.map Ap))) :
 DeepOk Tryz.prog 106 [.p 6 0, .vec 21 (Bd e)] h d (.pv (.i .i64 0)) [.frz 38 (.sl false 15 (s.objs.map Ap)), .upd 6 (.var (.agg (A7 (Ok s e))))] :=
 DeepOk.frz (args' := [.p 6 0, .vec 21 (Bd e)]) (h' := fun k => if k = 38 then none else (h k).map (Blk.frz 38 (.sl false 15 (s.objs.map Ap)))) (d' := d) h38 rfl (fun k _ => rfl) (Aqu hk hr (by show (h 6).map _ = _; rw [hg, Option.map_some, Air]; rfl))
def Ag1 (l : List Bn) (i : Bn) : Int := match l.findIdx? (fun x => decide (i = x)) with
 | some k => k
 | none => -1
def Aim (f : Bool) (l : List Bn) (i : Bn) (k : Nat) : FS := mk [(8, .pv (.i .i64 k)), (7, .pv (.i .i64 l.length)), (0, .pv (.sl f 2 (l.map Eb))), (3, .p 3 0)] [(3, some (.var (.vec 2 [.i .i64 i.1, .i .u32 i.2])))]
set_option maxHeartbeats 1000000 in
theorem Aqo {f : Bool} {l : List Bn} (i : Bn) {h d} (hn : l.length ≤ 1000) : FunOk Tryz.prog 172 [.pv (.sl f 2 (l.map Eb)), .vec 2 [.i .i64 i.1, .i .u32 i.2]] h d (.pv (.i .i64 (Ag1 l i))) [] := by
 refine Am Af fn172 (by simp) rfl rfl fun F => ?_;simp (disch := omega) only [ir172, List.length_map, go_sem];refine Az Af (Aim f l i) (fun k => k ≤ l.length ∧ ∀ j x, j < k → l[j]? = some x → i ≠ x) (fun k => l.length - k) 0 ⟨by simp, fun j x hj => absurd hj (Nat.not_lt_zero j)⟩ (Ah ?_ ?_) fun k hk => ?_
 · simp (disch := omega) only [go_sem]
 · simp (disch := omega) only [go_sem]
 obtain ⟨hk1, hk2⟩ := hk;by_cases hlt : k < l.length
 · have hx : l[k]? = some l[k] := List.getElem?_eq_getElem hlt;have he : (l.map Eb)[k]? = some (Eb l[k]) := by rw [List.getElem?_map, hx]; rfl
   generalize l[k] = b at *;by_cases hb : i = b
   · have hp := Fp hb;have e : Ag1 l i = k := by
      have : l.findIdx? (fun x => decide (i = x)) = some k := by
       rw [List.findIdx?_eq_some_iff_getElem];refine ⟨hlt, by rw [List.getElem?_eq_getElem hlt] at hx; cases hx; simpa using hb, fun j hj => ?_⟩;have := hk2 j _ hj (List.getElem?_eq_getElem (by omega));simpa using this
      unfold Ag1; rw [this]
     simp (disch := omega) only [Aim, List.length_map, he, Ej, Ae, hp, e, go_sem]
   · have hp := Fq hb;simp (disch := omega) only [Aim, List.length_map, he, Ej, Ae, hp, go_sem];refine Ad (k + 1) _ _ rfl ⟨by omega, fun j x hj hjx => ?_⟩ (by omega) ?_ ?_
     · by_cases ej : j = k
       · subst ej; rw [hx] at hjx; cases hjx; exact hb
       · exact hk2 j x (by omega) hjx
     · simp (disch := omega) only [go_sem]
     · simp (disch := omega) only [go_sem]
 · obtain rfl : k = l.length := by omega
   have e : Ag1 l i = -1 := by
    have : l.findIdx? (fun x => decide (i = x)) = none := by
     rw [List.findIdx?_eq_none_iff];intro x hx;obtain ⟨j, hj⟩ := List.mem_iff_getElem?.1 hx;have := hk2 j x (List.getElem?_eq_some_iff.1 hj).1 hj;simpa using this
    unfold Ag1; rw [this]
   simp (disch := omega) only [Aim, e, go_sem]
theorem Asj (l : List Bn) (i : Bn) : decide (0 ≤ Ag1 l i) = decide (i ∈ l) := by
 unfold Ag1;cases h : l.findIdx? (fun x => decide (i = x)) with
 | some k =>
   have := List.findIdx?_eq_some_iff_getElem.1 h;obtain ⟨h1, h2, _⟩ := this;have h3 : i = l[k] := by simpa using h2
   have : i ∈ l := by rw [h3]; exact List.getElem_mem h1
   simp only [this, decide_true, decide_eq_true_eq]; omega
 | none =>
   have h2 := List.findIdx?_eq_none_iff.1 h;have : ¬ i ∈ l := fun hm => by have := h2 i hm; simp at this
   simp only [this, decide_false, decide_eq_false_iff_not]; omega
theorem Tz (g : SlI) (i : Bn) (hg : g.ok) {h d} (hn : g.l.length ≤ 1000) : FunOk Tryz.prog 157 [.pv g.pv, .vec 2 [.i .i64 i.1, .i .u32 i.2]] h d (.pv (.b (decide (i ∈ g.l)))) [] := by
 refine FunOk.imp (args' := [.pv (.sl g.f 2 (g.l.map Eb)), .vec 2 [.i .i64 i.1, .i .u32 i.2]]) ?_ ⟨Us g hg, Imp.refl _, trivial⟩ (by simp [A5, tn]);refine Am Af fn157 (by simp) rfl rfl fun F => ?_;have e := Asj g.l i;simp (disch := omega) only [ir157, go_sem];refine Aa (Aqo (l := g.l) i hn) ?_;simp (disch := omega) only [e, go_sem]
def Eu (e : Evt) (x : Ent) : Bool := decide (x.obj = Ay e) && decide (x.id ∈ e.gone.l)
def Fk (e : Evt) (l m : List Ent) : List Ent := m.foldl (fun a x => if Eu e x = true then killL a x.id (Ak e) else a) l
theorem Xd (e : Evt) (l m : List Ent) (x : Ent) : Fk e l (m ++ [x]) = if Eu e x = true then killL (Fk e l m) x.id (Ak e) else Fk e l m := by
 simp [Fk, List.foldl_append]
theorem L3 {e : Evt} {l : List Ent} (h : Ds l) : ∀ m : List Ent, Ds (Fk e l m) := fun m => by
 unfold Fk
 induction m generalizing l with
 | nil => exact h
 | cons x m ih =>
   simp only [List.foldl_cons];split
   · exact ih (Akw h _ _)
   · exact ih h
theorem S8 {e : Evt} {l : List Ent} : ∀ m : List Ent, (Fk e l m).length = l.length := fun m => by
 unfold Fk
 induction m generalizing l with
 | nil => rfl
 | cons x m ih =>
   simp only [List.foldl_cons];split
   · rw [ih]; exact Axq _ _ _
   · exact ih
def Acu (s : St) (e : Evt) (i k : Nat) : FS := mk [(27, .pv (.i .i64 k)), (26, .pv (.i .i64 s.ents.length)), (25, .pv (.sl false 15 (s.ents.map Bm))), (5, .p 5 0), (0, .p 6 0), (1, .pr 38 15 i 0), (1000000, .p 6 0)] [(5, some (.var (.vec 21 (Bd e)))), (6, some (.var (.agg (A3 s (.os 38) (.pv (.sl false 15 ((Fk e s.ents (s.ents.take k)).map Bm))))))), (38, some (.row 15 (s.objs.map Ap)))]
theorem Apm {α : Type} {l : List α} {i : Nat} {x : α} (h : l[i]? = some x) : l.set i x = l := by
 obtain ⟨h1, h2⟩ := List.getElem?_eq_some_iff.1 h;rw [← h2]; exact List.set_getElem_self h1
def T3 (s : St) (e : Evt) (i : Nat) (o : Obj) : St := { s with objs := s.objs.set i { o with seen := Cm o.seen (A9 e.dep e.rep e.seq) }, ents := Fk e s.ents s.ents }
set_option maxHeartbeats 4000000 in
theorem Agf {s : St} {e : Evt} {o : Obj} {i : Nat} (hs : StOk s) (he : ev e) (hk : e.kind = 6) (ho : s.objs[i]? = some o) {h d}
 (hg : h 6 = some (.var (Jg s))) (h38 : h 38 = some (.row 15 (s.objs.map Ap))) :
 DeepOk Tryz.prog 139 [.p 6 0, .pr 38 15 i 0, .vec 21 (Bd e)] h d (.pv (.i .i64 0)) [.new 38 (.row 15 ((T3 s e i o).objs.map Ap)), .upd 6 (.var (Jg (T3 s e i o)))] := by
 refine Ev Af fn139 (by simp) hg h38 (by decide) rfl (D3 _) fun F => ?_;have hil := (List.getElem?_eq_some_iff.1 ho).1;have hel : (s.objs.map Ap)[i]? = some (Ap o) := by rw [List.getElem?_map, ho]; rfl
 have hgd := Q6 ho;have a3 := hs.fine.en;simp (disch := omega) only [ir139, Jg, A3, Fc, Ag, hk, List.length_map, go_sem];refine Az Af (Acu s e i) (fun k => k ≤ s.ents.length) (fun k => s.ents.length - k) 0 (by simp) (Ah ?_ ?_) fun k hk => ?_
 · simp (disch := omega) only [go_sem]
 · simp (disch := omega) only [A3, Fk, List.take_zero, List.foldl_nil, go_sem]
 by_cases hlt : k < s.ents.length
 · have hx : s.ents[k]? = some s.ents[k] := List.getElem?_eq_getElem hlt;have hel : (s.ents.map Bm)[k]? = some (Bm s.ents[k]) := by rw [List.getElem?_map, hx]; rfl
   have ht := Cz hx;have hsn := Xd e s.ents (s.ents.take k) s.ents[k];rw [← ht] at hsn;generalize s.ents[k] = x at *;have hel15 := Dr x;have hsoK := L3 (e := e) hs.se (s.ents.take k);have hlK := S8 (e := e) (l := s.ents) (s.ents.take k);by_cases h1 : x.obj = Ay e
   · have hp := Fp h1;have hpv : e.gone.pv = .sl e.gone.f e.gone.z (e.gone.l.map Eb) := rfl;simp (disch := omega) only [Acu, A3, List.length_map, hel, Fe, hel15, C6, A8, Bo, Ae, hp, F9, Di, go_sem];refine Aa (Tz e.gone x.id he.1 he.2.2.1) ?_;by_cases h2 : x.id ∈ e.gone.l
     · have hg : Eu e x = true := by unfold Eu; simp [h1, h2]
       rw [if_pos hg] at hsn;simp (disch := omega) only [h2, Di, Aw, go_sem];refine Aa (Ai5 (l := Fk e s.ents (s.ents.take k)) x.id (Ak e) rfl rfl hsoK (by omega)) ?_;simp (disch := omega) only [go_sem];refine ⟨k + 1, by omega, by omega, Ec 52 rfl (Ah ?_ ?_)⟩
       · simp (disch := omega) only [go_sem]
       · simp (disch := omega) only [A3, hsn, go_sem]
     · have hg : ¬ Eu e x = true := by unfold Eu; simp [h2]
       rw [if_neg hg] at hsn;simp (disch := omega) only [h2, go_sem];refine Ad (k + 1) _ _ rfl (by omega) (by omega) ?_ ?_
       · simp (disch := omega) only [go_sem]
       · simp (disch := omega) only [A3, hsn, go_sem]
   · have hp := Fq h1;have hg : ¬ Eu e x = true := by unfold Eu; simp [h1]
     rw [if_neg hg] at hsn;simp (disch := omega) only [Acu, A3, List.length_map, hel, Fe, hel15, C6, A8, Bo, Ae, hp, Di, go_sem];refine Ad (k + 1) _ _ rfl (by omega) (by omega) ?_ ?_
     · simp (disch := omega) only [go_sem]
     · simp (disch := omega) only [A3, hsn, go_sem]
 obtain rfl : k = s.ents.length := by omega
 have htk : s.ents.take s.ents.length = s.ents := List.take_length;simp (disch := omega) only [Acu, A3, htk, Ag, hk, hel, Lx, Fb, Aw, go_sem];refine Aa (Aa3 e.dep e.rep e.seq) ?_;simp (disch := omega) only [go_sem];refine Aa (Agh o.seen (A9 e.dep e.rep e.seq)) ?_;have hsp := V6 o (Cm o.seen (A9 e.dep e.rep e.seq));have hset : (s.objs.map Ap).set i (Ap { o with seen := Cm o.seen (A9 e.dep e.rep e.seq) }) = (T3 s e i o).objs.map Ap := by
  unfold T3; rw [List.map_set]
 have hvl := Bi (Cm o.seen (A9 e.dep e.rep e.seq));simp (disch := omega) only [hgd, hsp, List.length_map, hset, go_sem];refine B0 ?_;simp (disch := omega) only [T3, go_sem]
def W3 (e : Evt) (o : Obj) : Obj := if Ck o.last.1 o.last.2 e.rep e.seq = true then { o with last := Ak e, name := e.name } else o
def M8 (s : St) (e : Evt) (i : Nat) (o : Obj) : St := { s with objs := s.objs.set i (W3 e o), ents := Rp (Fk e s.ents s.ents) (Gi e (Ay e)) }
set_option maxHeartbeats 4000000 in
theorem Age {s : St} {e : Evt} {o : Obj} {i : Nat} (hs : StOk s) (he : ev e) (hk : e.kind = 7) (hd : Ku s.objs (Hk e) = 0) (ho : s.objs[i]? = some o) {h d}
 (hg : h 6 = some (.var (Jg s))) (h38 : h 38 = some (.row 15 (s.objs.map Ap))) :
 DeepOk Tryz.prog 139 [.p 6 0, .pr 38 15 i 0, .vec 21 (Bd e)] h d (.pv (.i .i64 0)) [.new 38 (.row 15 ((M8 s e i o).objs.map Ap)), .upd 6 (.var (Jg (M8 s e i o)))] := by
 refine Ev Af fn139 (by simp) hg h38 (by decide) rfl (D3 _) fun F => ?_;have hil := (List.getElem?_eq_some_iff.1 ho).1;have hel : (s.objs.map Ap)[i]? = some (Ap o) := by rw [List.getElem?_map, ho]; rfl
 have hgd := Q6 ho;have a1 := hs.fine.on;have a3 := hs.fine.en;simp (disch := omega) only [ir139, Jg, A3, Fc, Ag, hk, Dh, go_sem];refine Aa (M4 (s := s) (Hk e) hs.so (by omega) rfl) ?_;simp (disch := omega) only [hd, List.length_map, go_sem];refine Az Af (Acu s e i) (fun k => k ≤ s.ents.length) (fun k => s.ents.length - k) 0 (by simp) (Ah ?_ ?_) fun k hk => ?_
 · simp (disch := omega) only [go_sem]
 · simp (disch := omega) only [A3, Fk, List.take_zero, List.foldl_nil, go_sem]
 by_cases hlt : k < s.ents.length
 · have hx : s.ents[k]? = some s.ents[k] := List.getElem?_eq_getElem hlt;have hel : (s.ents.map Bm)[k]? = some (Bm s.ents[k]) := by rw [List.getElem?_map, hx]; rfl
   have ht := Cz hx;have hsn := Xd e s.ents (s.ents.take k) s.ents[k];rw [← ht] at hsn;generalize s.ents[k] = x at *;have hel15 := Dr x;have hsoK := L3 (e := e) hs.se (s.ents.take k);have hlK := S8 (e := e) (l := s.ents) (s.ents.take k);by_cases h1 : x.obj = Ay e
   · have hp := Fp h1;have hpv : e.gone.pv = .sl e.gone.f e.gone.z (e.gone.l.map Eb) := rfl;simp (disch := omega) only [Acu, A3, List.length_map, hel, Fe, hel15, C6, A8, Bo, Ae, hp, F9, Di, go_sem];refine Aa (Tz e.gone x.id he.1 he.2.2.1) ?_;by_cases h2 : x.id ∈ e.gone.l
     · have hg : Eu e x = true := by unfold Eu; simp [h1, h2]
       rw [if_pos hg] at hsn;simp (disch := omega) only [h2, Di, Aw, go_sem];refine Aa (Ai5 (l := Fk e s.ents (s.ents.take k)) x.id (Ak e) rfl rfl hsoK (by omega)) ?_;simp (disch := omega) only [go_sem];refine ⟨k + 1, by omega, by omega, Ec 52 rfl (Ah ?_ ?_)⟩
       · simp (disch := omega) only [go_sem]
       · simp (disch := omega) only [A3, hsn, go_sem]
     · have hg : ¬ Eu e x = true := by unfold Eu; simp [h2]
       rw [if_neg hg] at hsn;simp (disch := omega) only [h2, go_sem];refine Ad (k + 1) _ _ rfl (by omega) (by omega) ?_ ?_
       · simp (disch := omega) only [go_sem]
       · simp (disch := omega) only [A3, hsn, go_sem]
   · have hp := Fq h1;have hg : ¬ Eu e x = true := by unfold Eu; simp [h1]
     rw [if_neg hg] at hsn;simp (disch := omega) only [Acu, A3, List.length_map, hel, Fe, hel15, C6, A8, Bo, Ae, hp, Di, go_sem];refine Ad (k + 1) _ _ rfl (by omega) (by omega) ?_ ?_
     · simp (disch := omega) only [go_sem]
     · simp (disch := omega) only [A3, hsn, go_sem]
 obtain rfl : k = s.ents.length := by omega
 have htk : s.ents.take s.ents.length = s.ents := List.take_length;have hsG := L3 (e := e) hs.se s.ents;have hlG := S8 (e := e) (l := s.ents) s.ents;simp (disch := omega) only [Acu, A3, htk, Ag, hk, Aw, Dh, Du, A8, go_sem];refine Aa (Aa9 (l := Fk e s.ents s.ents) e (Ay e) hsG (by omega)) ?_;simp (disch := omega) only [hel, Hy, Aw, go_sem];refine Aa (M3 o.last.1 o.last.2 e.rep e.seq) ?_;by_cases hl : Ck o.last.1 o.last.2 e.rep e.seq = true
 · have hmo : W3 e o = { o with last := Ak e, name := e.name } := if_pos hl;have hsp := V8 o (Ak e);have hsp2 := V7 { o with last := Ak e } e.name;have hset : ((s.objs.map Ap).set i (Ap { o with last := Ak e })).set i (Ap { o with last := Ak e, name := e.name }) = (M8 s e i o).objs.map Ap := by
    unfold M8; rw [List.set_set, List.map_set, hmo]
   have hgd2 : ((s.objs.map Ap).set i (Ap { o with last := Ak e })).getD i [] = Ap { o with last := Ak e } := by
    rw [List.getD_eq_getElem?_getD, List.getElem?_set_self (by simpa using hil)]; rfl
   simp (disch := omega) only [hl, go_sem];refine Jx ?_;simp (disch := omega) only [Aw, Du, hgd, hsp, List.length_map, List.length_set, hgd2, hsp2, hset, go_sem];refine ⟨_, Ec 86 rfl (.same _), ?_⟩
   (try simp only [Cg, Cf, Ce, Cd, Cc, Cb, Ca, B9]); simp (disch := omega) only [M8, go_sem]
 · have hmo : W3 e o = o := if_neg hl;have hl' : Ck o.last.1 o.last.2 e.rep e.seq = false := by simpa using hl
   have hset : s.objs.map Ap = (M8 s e i o).objs.map Ap := by
    unfold M8; rw [hmo];show _ = (s.objs.set i o).map Ap;rw [Apm ho]
   simp (disch := omega) only [hl', go_sem];refine ⟨_, Ec 86 rfl (.same _), ?_⟩
   (try simp only [Cg, Cf, Ce, Cd, Cc, Cb, Ca, B9]); simp (disch := omega) only [M8, go_sem]
   exact congrArg (fun q => some (Blk.row 15 q)) hset
theorem Agd {s : St} {e : Evt} {i : Nat} (hs : StOk s) (hk : e.kind = 7) (hd : Ku s.objs (Hk e) ≠ 0) {h d}
 (hg : h 6 = some (.var (Jg s))) (h38 : h 38 = some (.row 15 (s.objs.map Ap))) :
 DeepOk Tryz.prog 139 [.p 6 0, .pr 38 15 i 0, .vec 21 (Bd e)] h d (.pv (.i .i64 (Ku s.objs (Hk e)))) [.new 38 (.row 15 (s.objs.map Ap)), .upd 6 (.var (Jg s))] := by
 refine Ev Af fn139 (by simp) hg h38 (by decide) rfl (D3 _) fun F => ?_;have a1 := hs.fine.on;simp (disch := omega) only [ir139, Jg, A3, Fc, Ag, hk, Dh, go_sem];refine Aa (M4 (s := s) (Hk e) hs.so (by omega) rfl) ?_;simp (disch := omega) only [hd, go_sem];refine B0 ?_;simp (disch := omega) only [go_sem]
set_option maxHeartbeats 4000000 in
theorem Aqw {s : St} {e : Evt} {o : Obj} (hs : StOk s) (he : ev e) (hk : e.kind = 6) (ho : s.objs[Bs s.objs (Ay e)]? = some o) (hid : o.id = Ay e) {h d}
 (hg : h 6 = some (.var (Jg s))) (h38 : h 38 = some (.row 15 (s.objs.map Ap))) :
 DeepOk Tryz.prog 106 [.p 6 0, .vec 21 (Bd e)] h d (.pv (.i .i64 0)) [.new 38 (.row 15 ((T3 s e (Bs s.objs (Ay e)) o).objs.map Ap)), .upd 6 (.var (Jg (T3 s e (Bs s.objs (Ay e)) o)))] := by
 refine Ev Af fn106 (by simp) hg h38 (by decide) rfl (D3 _) fun F => ?_;have n8 : ¬ e.kind = 8 := by omega
 have n9 : ¬ e.kind = 9 := by omega
 have n1 : ¬ e.kind = 1 := by omega
 have n2 : ¬ e.kind = 2 := by omega
 have hi := Zb hs.so ho hid;have hlt := (List.getElem?_eq_some_iff.1 ho).1;have a1 := hs.fine.on;simp (disch := omega) only [ir106, Jg, A3, Fc, Ag, n8, n9, n1, n2, A8, go_sem];refine Aa (M5 (l := s.objs) (Ay e) rfl rfl hs.so (by omega)) ?_;simp (disch := omega) only [hi, List.length_map, hk, Ag, Bg, go_sem];refine H2 (Agf hs he hk ho rfl rfl) ?_;simp (disch := omega) only [Jg, A3, Fc, go_sem];refine B0 ?_;simp (disch := omega) only [go_sem]
set_option maxHeartbeats 4000000 in
theorem Aqv {s : St} {e : Evt} {o : Obj} (hs : StOk s) (he : ev e) (hk : e.kind = 7) (hd : Ku s.objs (Hk e) = 0) (ho : s.objs[Bs s.objs (Ay e)]? = some o) (hid : o.id = Ay e) {h d}
 (hg : h 6 = some (.var (Jg s))) (h38 : h 38 = some (.row 15 (s.objs.map Ap))) :
 DeepOk Tryz.prog 106 [.p 6 0, .vec 21 (Bd e)] h d (.pv (.i .i64 0)) [.new 38 (.row 15 ((M8 s e (Bs s.objs (Ay e)) o).objs.map Ap)), .upd 6 (.var (Jg (M8 s e (Bs s.objs (Ay e)) o)))] := by
 refine Ev Af fn106 (by simp) hg h38 (by decide) rfl (D3 _) fun F => ?_;have n8 : ¬ e.kind = 8 := by omega
 have n9 : ¬ e.kind = 9 := by omega
 have n1 : ¬ e.kind = 1 := by omega
 have n2 : ¬ e.kind = 2 := by omega
 have hi := Zb hs.so ho hid;have hlt := (List.getElem?_eq_some_iff.1 ho).1;have a1 := hs.fine.on;simp (disch := omega) only [ir106, Jg, A3, Fc, Ag, n8, n9, n1, n2, A8, go_sem];refine Aa (M5 (l := s.objs) (Ay e) rfl rfl hs.so (by omega)) ?_;simp (disch := omega) only [hi, List.length_map, hk, Ag, Bg, go_sem];refine H2 (Age hs he hk hd ho rfl rfl) ?_;simp (disch := omega) only [Jg, A3, Fc, go_sem];refine B0 ?_;simp (disch := omega) only [go_sem]
set_option maxHeartbeats 4000000 in
theorem Aa7 {s : St} {e : Evt} {o : Obj} (hs : StOk s) (hk : e.kind = 7) (hd : Ku s.objs (Hk e) ≠ 0) (ho : s.objs[Bs s.objs (Ay e)]? = some o) (hid : o.id = Ay e) : Z4 s e (Ku s.objs (Hk e)) := by
 intro h d hg h38;refine ⟨s.objs.map Ap, Jg s, Ev Af fn106 (by simp) hg h38 (by decide) rfl (D3 s) fun F => ?_⟩;have n8 : ¬ e.kind = 8 := by omega
 have n9 : ¬ e.kind = 9 := by omega
 have n1 : ¬ e.kind = 1 := by omega
 have n2 : ¬ e.kind = 2 := by omega
 have hi := Zb hs.so ho hid;have hlt := (List.getElem?_eq_some_iff.1 ho).1;have a1 := hs.fine.on;simp (disch := omega) only [ir106, Jg, A3, Fc, Ag, n8, n9, n1, n2, A8, go_sem];refine Aa (M5 (l := s.objs) (Ay e) rfl rfl hs.so (by omega)) ?_;simp (disch := omega) only [hi, List.length_map, hk, Ag, Bg, go_sem];refine H2 (Agd hs hk hd rfl rfl) ?_;simp (disch := omega) only [Jg, A3, Fc, go_sem];refine B0 ?_;simp (disch := omega) only [go_sem]
end Go.Proofs.YthmjebkldgdeiaaGreat.Fw
namespace Go.Proofs.YthmjebkldgdeiaaGreat.Fw
open Go.RowKit Go.Proofs
def Fa (l : List Obj) (i : Bn) : Option Obj := match l[Bs l i]? with
 | some o => if o.id = i then some o else none
 | none => none
theorem Gz {l : List Obj} {i : Bn} {o : Obj} (h : Fa l i = some o) : l[Bs l i]? = some o ∧ o.id = i := by
 unfold Fa at h;split at h
 · rename_i u hu;split at h
   · rename_i hi; cases h; exact ⟨hu, hi⟩
   · cases h
 · cases h
theorem Amc {l : List Obj} (hs : El l) (i : Bn) : isO l i = (Fa l i).isSome := by
 rw [Qz hs]; unfold Fa;cases l[Bs l i]? with
 | none => rfl
 | some x => simp only; by_cases h : x.id = i <;> simp [h]
theorem Ahh {l : List Obj} (i : Bn) : Ku l i = if i = (0, 0) then 0 else match Fa l i with | some o => if o.dir = true then 0 else 22 | none => 2 := by
 unfold Ku Fa;split
 · rfl
 · cases l[Bs l i]? with
   | none => rfl
   | some x => simp only; by_cases h : x.id = i <;> simp [h]
open Classical in
noncomputable def Ud (s : St) (e : Evt) : Int :=
 if e.kind = 8 ∨ e.kind = 9 then 0
 else if e.kind = 1 ∨ e.kind = 2 then Ku s.objs (Hk e)
 else match Fa s.objs (Ay e) with
  | none => 2
  | some o => if e.kind = 7 then Ku s.objs (Hk e) else if e.kind = 6 then 0 else if o.dir = true then 23 else if Dg o.vers e.base.l then 2 else 0
def doS (s : St) (e : Evt) : St :=
 if e.kind = 8 then Ih s e
 else if e.kind = 9 then Ok s e
 else if e.kind = 1 ∨ e.kind = 2 then mkS s e
 else match Fa s.objs (Ay e) with
  | none => s
  | some o => if e.kind = 7 then M8 s e (Bs s.objs (Ay e)) o else if e.kind = 6 then T3 s e (Bs s.objs (Ay e)) o else { s with objs := wrO s e o }
noncomputable def Ew (s : St) (e : Evt) : Int :=
 if Bk e = false then 7
 else if Bl s.known e.rep e.seq = true then 11
 else if ¬ Um e.dep s.known then 10
 else if s.ret (e.rep - 1).toNat = true then 28
 else Ud s e
def Hg (s : St) (e : Evt) : St := { s with known := A9 s.known e.rep e.seq }
def Hn (s : St) (e : Evt) : St := doS (Hg s e) e
structure StIn (s : St) : Prop extends StOk s where
 sv : ∀ o ∈ s.objs, Cv o.vers
 sd : ∀ o ∈ s.objs, ∀ v ∈ o.vers, v.data.length ≤ 200
 sk : ∀ o ∈ s.objs, ∀ v ∈ o.vers, Bl s.known v.rep v.seq = true
theorem Cx {e : Evt} (h : Bk e = true) : Iv e := by
 unfold Bk at h;simp only [Bool.and_eq_true, decide_eq_true_eq] at h;exact h.1
theorem Xq {e : Evt} (h : Bk e = true) (hk : e.kind = 3 ∨ e.kind = 4 ∨ e.kind = 5) {l : List Ver} (hd : ∀ v ∈ l, v.data.length ≤ 200) : FitsW l e := by
 unfold Bk at h;simp only [Bool.and_eq_true, decide_eq_true_eq] at h;have hK := h.2.2.2;refine ⟨hk, fun h5 => ?_, fun h3 => ?_, hd⟩
 · have : e.kind = 3 ∨ e.kind = 4 := by omega
   rcases this with h3 | h4
   · rw [Kc h3] at hK;simp only [Bool.and_eq_true, Cw, decide_eq_true_eq] at hK;exact hK.2.2.1
   · rw [Ob h4] at hK;simp only [Bool.and_eq_true, Cw, decide_eq_true_eq] at hK;exact hK.2.2
 · rw [Kc h3] at hK;simp only [Bool.and_eq_true, Cw, decide_eq_true_eq] at hK;exact hK.2.2.2.2.2.2
theorem O4 {e : Evt} (h : Bk e = true) (hk : e.kind = 3 ∨ e.kind = 4 ∨ e.kind = 5) : e.base.l.length ≤ 8 := by
 unfold Bk at h;simp only [Bool.and_eq_true, decide_eq_true_eq] at h;have hK := h.2.2.2;rcases hk with h3 | h3 | h3
 · rw [Kc h3] at hK;simp only [Bool.and_eq_true, Ef, decide_eq_true_eq] at hK;have := hK.2.1.1; omega
 · rw [Ob h3] at hK;simp only [Bool.and_eq_true, Ef, decide_eq_true_eq] at hK;have := hK.2.1.1; omega
 · rw [Oa h3] at hK;simp only [Bool.and_eq_true, Ef, decide_eq_true_eq] at hK;have := hK.2.1.1; omega
structure DoIn (s : St) (e : Evt) : Prop where
 ok : StOk s
 ev : ev e
 ck : Bk e = true
 vo : e.kind = 3 ∨ e.kind = 4 ∨ e.kind = 5 → ∀ o ∈ s.objs, VerOk o e
theorem A89 {s : St} {e : Evt} (hi : DoIn s e) (hw : Ud s e ≠ 0) : Z4 s e (Ud s e) := by
 have hb := Cx hi.ck;obtain ⟨b1, b2, b3, b4, b5, b6, b7⟩ := hb;unfold Ud at hw ⊢;rcases Classical.em (e.kind = 8 ∨ e.kind = 9) with h89 | h89
 · rw [if_pos h89] at hw; exact absurd rfl hw
 rw [if_neg h89] at hw ⊢;rcases Classical.em (e.kind = 1 ∨ e.kind = 2) with h12 | h12
 · rw [if_pos h12] at hw ⊢;exact All hi.ok h12 hw
 rw [if_neg h12] at hw ⊢;have hk : e.kind = 3 ∨ e.kind = 4 ∨ e.kind = 5 ∨ e.kind = 6 ∨ e.kind = 7 := by omega
 cases ho : Fa s.objs (Ay e) with
 | none =>
   have : isO s.objs (Ay e) = false := by rw [Amc hi.ok.so, ho]; rfl
   exact Alj hi.ok hk this
 | some o =>
   rw [ho] at hw;simp only at hw ⊢;obtain ⟨g1, g2⟩ := Gz ho;rcases Classical.em (e.kind = 7) with h7 | h7
   · rw [if_pos h7] at hw ⊢;exact Aa7 hi.ok h7 hw g1 g2
   rw [if_neg h7] at hw ⊢;rcases Classical.em (e.kind = 6) with h6 | h6
   · rw [if_pos h6] at hw; exact absurd rfl hw
   rw [if_neg h6] at hw ⊢;have hk : e.kind = 3 ∨ e.kind = 4 ∨ e.kind = 5 := by omega
   rcases Classical.em (o.dir = true) with hd | hd
   · rw [if_pos hd]; exact Aqs hi.ok hk g1 g2 hd
   rw [if_neg hd] at hw ⊢;rcases Classical.em (Dg o.vers e.base.l) with hm | hm
   · rw [if_pos hm]; exact Agi hi.ok hi.ev g1 g2 (by simpa using hd) (hi.vo hk o (List.mem_of_getElem? g1)) hm
   · rw [if_neg hm] at hw; exact absurd rfl hw
theorem Bbx {s : St} {e : Evt} (hi : DoIn s e) (hw : Ud s e = 0) (hk : ¬ (e.kind = 8 ∨ e.kind = 9)) : ∃ r, PImpR r ((doS s e).objs.map Ap) ∧
 ∀ {h : Nat → Option Blk} {d : Nat}, h 6 = some (.var (Jg s)) → h 38 = some (.row 15 (s.objs.map Ap)) → DeepOk Tryz.prog 106 [.p 6 0, .vec 21 (Bd e)] h d (.pv (.i .i64 0)) [.new 38 (.row 15 r), .upd 6 (.var (Jg (doS s e)))] := by
 have hb := Cx hi.ck;obtain ⟨b1, b2, b3, b4, b5, b6, b7⟩ := hb;have n8 : ¬ e.kind = 8 := fun h => hk (.inl h);have n9 : ¬ e.kind = 9 := fun h => hk (.inr h);unfold Ud at hw;unfold doS;rw [if_neg hk] at hw;rw [if_neg n8, if_neg n9];by_cases h12 : e.kind = 1 ∨ e.kind = 2
 · rw [if_pos h12] at hw ⊢;refine ⟨_, ?_, fun hg h38 => A62 hi.ok h12 hw hg h38⟩;simp only [mkS, List.map_append, List.map_take, List.map_drop, List.map_cons];exact PImpR.app (.refl _) ⟨Ajb (W0 e) (.inl rfl), .refl _⟩
 rw [if_neg h12] at hw ⊢;have hk' : e.kind = 3 ∨ e.kind = 4 ∨ e.kind = 5 ∨ e.kind = 6 ∨ e.kind = 7 := by omega
 cases ho : Fa s.objs (Ay e) with
 | none => rw [ho] at hw; cases hw
 | some o =>
   rw [ho] at hw;simp only at hw ⊢;obtain ⟨g1, g2⟩ := Gz ho;by_cases h7 : e.kind = 7
   · rw [if_pos h7] at hw ⊢;exact ⟨_, .refl _, fun hg h38 => Aqv hi.ok hi.ev h7 hw g1 g2 hg h38⟩
   rw [if_neg h7] at hw ⊢;by_cases h6 : e.kind = 6
   · rw [if_pos h6];exact ⟨_, .refl _, fun hg h38 => Aqw hi.ok hi.ev h6 g1 g2 hg h38⟩
   rw [if_neg h6] at hw ⊢;have hk : e.kind = 3 ∨ e.kind = 4 ∨ e.kind = 5 := by omega
   by_cases hd : o.dir = true
   · rw [if_pos hd] at hw; cases hw
   rw [if_neg hd] at hw;by_cases hm : Dg o.vers e.base.l
   · rw [if_pos hm] at hw; cases hw
   · exact ⟨_, .refl _, fun hg h38 => A61 hi.ok hi.ev g1 g2 (by simpa using hd) (hi.vo hk o (List.mem_of_getElem? g1)) hm hg h38⟩
theorem Ata {s : St} (hs : StIn s) {e : Evt} (h : Bl s.known e.rep e.seq = false) {o : Obj} (ho : o ∈ s.objs) : Bp o.vers e.rep e.seq = none := by
 rw [Ps];intro v hv ⟨h1, h2⟩;have := hs.sk o ho v hv;rw [h1, h2, h] at this; cases this
theorem Al7 {s : St} (hs : StIn s) {e : Evt} (he : ev e) (hc : Bk e = true) (h : Bl s.known e.rep e.seq = false) : DoIn (Hg s e) e :=
 ⟨⟨⟨hs.fine.on, hs.fine.ov, hs.fine.en⟩, hs.so, hs.se⟩, he, hc, fun hk o ho => ⟨hs.sv o ho, Xq hc hk (hs.sd o ho), Ata hs h ho, Nat.le_trans (O4 hc hk) (by omega)⟩⟩
theorem Ajk (a b : PV) (w : Nat → Int) (r : Nat → Bool) {j : Nat} (hj : j < 8) (K : KK) : LoadK (some (a :: b :: (iE w ++ wE r))) (18 + j - 8) 1 false K = K (.pv (.b (r j))) [] := by
 have e : 18 + j - 8 = 10 + j := by omega
 rw [e];simp only [LoadK, Hp, eq_iff_iff];have e2 : (a :: b :: (iE w ++ wE r)).getD (10 + j) (.b false) = .b (r j) := by
  have hk2 : j = 0 ∨ j = 1 ∨ j = 2 ∨ j = 3 ∨ j = 4 ∨ j = 5 ∨ j = 6 ∨ j = 7 := by omega
  simp only [iE, wE, Ch];rcases hk2 with rfl | rfl | rfl | rfl | rfl | rfl | rfl | rfl <;> rfl
 rw [e2];exact ⟨fun h => h.2.2, fun h => ⟨by simp [S6, R2]; omega, .inr trivial, h⟩⟩
theorem Un {x y z : SV} (h : Imp x y) : Imp (.tup [x, z]) (.tup [y, z]) := Ax5 ⟨h, Imp.refl _, trivial⟩
noncomputable def Aay (s : St) (e : Evt) : St := if Ew s e = 0 then Hn s e else st0
theorem Qh {s : St} {e : Evt} {n : Int} (h : Ew s e = n) (hn : n ≠ 0) : Imp (.tup [.agg [.vec 8 (vE fun _ => 0), .pv (.sl true 0 []), .pv (.sl true 0 []), .vec 8 (iE fun _ => 0), .vec 8 (wE fun _ => false)], .pv (.i .i64 n)]) (.tup [.agg (A7 (Aay s e)), .pv (.i .i64 (Ew s e))]) := by
 have e1 : Aay s e = st0 := if_neg (by rw [h]; exact hn);rw [e1, h];exact Un Wh
set_option maxHeartbeats 8000000 in
theorem Aja {s : St} {e : Evt} (hs : StIn s) (he : ev e) {h d} : FunOk Tryz.prog 71 [.agg (A7 s), .vec 21 (Bd e)] h d (.tup [.agg (A7 (Aay s e)), .pv (.i .i64 (Ew s e))]) [] := by
 refine Ta Af fn71 (by simp) rfl rfl fun F => ?_;simp (disch := omega) only [ir71, A7, A3, Bg, go_sem];refine Aa (Aw4 e he) ?_;by_cases hc' : Bk e = false
 · have hw : Ew s e = 7 := if_pos hc';simp (disch := omega) only [hc', go_sem];refine B0 ?_;simp (disch := omega) only [go_sem];exact Qh hw (by decide)
 have hc : Bk e = true := by simpa using hc'
 have hb := Cx hc;obtain ⟨b1, b2, _⟩ := hb;simp (disch := omega) only [hc, Aw, Fb, go_sem];refine Aa (Gy _ _ _) ?_;by_cases h1 : Bl s.known e.rep e.seq = true
 · have hw : Ew s e = 11 := by unfold Ew; rw [if_neg hc', if_pos h1]
   simp (disch := omega) only [h1, go_sem];refine B0 ?_;simp (disch := omega) only [go_sem];exact Qh hw (by decide)
 have h1' : Bl s.known e.rep e.seq = false := by simpa using h1
 simp (disch := omega) only [h1', Fb, go_sem];refine Aa (A0f _ _) ?_;by_cases h2 : Um e.dep s.known;rotate_left
 · have hw : Ew s e = 10 := by unfold Ew; rw [if_neg hc', if_neg h1, if_pos h2]
   have h2' := decide_eq_false h2;simp (disch := omega) only [h2', go_sem];refine B0 ?_;simp (disch := omega) only [go_sem];exact Qh hw (by decide)
 have h2' := decide_eq_true h2;obtain ⟨k, hk8, hre⟩ : ∃ k : Nat, k < 8 ∧ e.rep - 1 = k := ⟨(e.rep - 1).toNat, by omega, by omega⟩
 have hld := fun (a b : PV) (w : Nat → Int) (r : Nat → Bool) (K : KK) => Ajk a b w r hk8 K;simp (disch := omega) only [h2', Db, hre, hld, go_sem];by_cases h3 : s.ret k = true
 · have hw : Ew s e = 28 := by unfold Ew; rw [if_neg hc', if_neg h1, if_neg (by simpa using h2), if_pos (by rw [hre]; exact h3)]
   simp (disch := omega) only [h3, go_sem];refine B0 ?_;simp (disch := omega) only [go_sem];exact Qh hw (by decide)
 have h3' : s.ret k = false := by simpa using h3
 have hw : Ew s e = Ud (Hg s e) e := by unfold Ew; rw [if_neg hc', if_neg h1, if_neg (by simpa using h2), if_neg (by rw [hre]; exact h3)]; rfl
 simp (disch := omega) only [h3', go_sem];refine Aa (Aq0 (s := s) hs.fine) ?_;simp (disch := omega) only [A3, Fc, Aw, go_sem];refine Aa (Aa3 s.known e.rep e.seq) ?_;have hvl := Bi (A9 s.known e.rep e.seq);simp (disch := omega) only [Bg, hvl, go_sem];have hdi := Al7 hs he hc h1';by_cases hz : Ud (Hg s e) e = 0;rotate_left
 · generalize hH : FS.h _ = H;have g6 : H 6 = some (.var (Jg (Hg s e))) := by rw [← hH]; rfl
   have g38 : H 38 = some (.row 15 ((Hg s e).objs.map Ap)) := by rw [← hH]; rfl
   obtain ⟨r, X, hdo⟩ := A89 hdi hz H 46 g6 g38;refine H2 hdo ?_;simp (disch := omega) only [hz, go_sem];refine B0 ?_;simp (disch := omega) only [go_sem];exact Qh hw hz
 have hR : Aay s e = doS (Hg s e) e := if_pos (hw.trans hz);rw [hR, hw, hz];by_cases h8 : e.kind = 8
 · have hS : doS (Hg s e) e = Ih (Hg s e) e := if_pos h8;rw [hS];refine H2 (Aqt (s := Hg s e) h8 ⟨b1, b2⟩ rfl rfl) ?_;simp (disch := omega) only [A7, A3, go_sem];refine B0 ?_;simp (disch := omega) only [go_sem]
 by_cases h9 : e.kind = 9
 · have hS : doS (Hg s e) e = Ok (Hg s e) e := by unfold doS; rw [if_neg h8, if_pos h9]
   rw [hS];refine H2 (Aw1 (s := Hg s e) h9 ⟨b1, b2⟩ rfl rfl) ?_;simp (disch := omega) only [A7, A3, go_sem];refine B0 ?_;simp (disch := omega) only [go_sem]
 obtain ⟨r, hr, hdo⟩ := Bbx hdi hz (fun h => h.elim h8 h9);refine H2 (hdo rfl rfl) ?_;generalize doS (Hg s e) e = S at *;simp (disch := omega) only [Jg, A3, Fc, go_sem];refine ⟨_, Ec 38 rfl (.same _), ?_⟩
 (try simp only [Cg, Cf, Ce, Cd, Cc, Cb, Ca, B9]); simp (disch := omega) only [go_sem]
 exact Un (Ut (s := S) (.inr rfl) (.inr rfl) hr (.refl _))
end Go.Proofs.YthmjebkldgdeiaaGreat.Fw
namespace Go.Proofs.YthmjebkldgdeiaaGreat.Fw
open Go.RowKit Go.Proofs
theorem Aqa (r : Int) (q : Nat) {h d} : FunOk Tryz.prog 131 [.vec 2 [.i .i64 r, .i .u32 q]] h d (.pv (.b (Bz r q))) [] := by
 refine Am Af fn131 (by simp) rfl rfl fun F => ?_;by_cases h1 : r = 0
 · by_cases h2 : q = 0
   · have e : Bz r q = true := decide_eq_true ⟨h1, h2⟩;have h2' : (q : Int) = 0 := by omega
     simp (disch := omega) only [ir131, Sx, Sw, h1, h2', e, go_sem];simp [Bz, h2]
   · have e : Bz r q = false := decide_eq_false fun h => h2 h.2;have h2' : ¬ (q : Int) = 0 := by omega
     simp (disch := omega) only [ir131, Sx, Sw, h1, h2', e, go_sem];simp [Bz, h2]
 · have e : Bz r q = false := decide_eq_false fun h => h1 h.1;simp (disch := omega) only [ir131, Sx, Sw, h1, e, go_sem]
def Aal (f : Bool) (l : List Bn) (i : Bn) (k : Nat) : FS := mk [(5, .pv (.i .i64 k)), (0, .pv (.sl f 2 (l.map Eb))), (3, .p 3 0)] [(3, some (.var (.vec 2 [.i .i64 i.1, .i .u32 i.2])))]
set_option maxHeartbeats 1000000 in
theorem Pj (g : SlI) (i : Bn) (hg : g.ok) {h d} (hn : g.l.length ≤ 1000) : FunOk Tryz.prog 99 [.pv g.pv, .vec 2 [.i .i64 i.1, .i .u32 i.2]] h d (.pv (.b (decide (i ∈ g.l)))) [] := by
 refine FunOk.imp (args' := [.pv (.sl g.f 2 (g.l.map Eb)), .vec 2 [.i .i64 i.1, .i .u32 i.2]]) ?_ ⟨Us g hg, Imp.refl _, trivial⟩ (by simp [A5, tn]);refine Am Af fn99 (by simp) rfl rfl fun F => ?_;generalize g.f = f;generalize g.l = l at *;simp (disch := omega) only [ir99, List.length_map, go_sem];refine Az Af (Aal f l i) (fun k => k ≤ l.length ∧ ∀ j x, j < k → l[j]? = some x → i ≠ x) (fun k => l.length - k) 0 ⟨by simp, fun j x hj => absurd hj (Nat.not_lt_zero j)⟩ (Ah ?_ ?_) fun k hk => ?_
 · simp (disch := omega) only [go_sem]
 · simp (disch := omega) only [go_sem]
 obtain ⟨hk1, hk2⟩ := hk;by_cases hlt : k < l.length
 · have hx : l[k]? = some l[k] := List.getElem?_eq_getElem hlt;have he : (l.map Eb)[k]? = some (Eb l[k]) := by rw [List.getElem?_map, hx]; rfl
   have hm := List.getElem_mem hlt;generalize l[k] = b at *;by_cases hb : b = i
   · have hp := Fp hb;have e : decide (i ∈ l) = true := decide_eq_true (hb ▸ hm);simp (disch := omega) only [Aal, List.length_map, he, Ej, Ae, hp, e, go_sem]
   · have hp := Fq hb;simp (disch := omega) only [Aal, List.length_map, he, Ej, Ae, hp, go_sem];refine Ad (k + 1) _ _ rfl ⟨by omega, fun j x hj hjx => ?_⟩ (by omega) ?_ ?_
     · by_cases ej : j = k
       · subst ej; rw [hx] at hjx; cases hjx; exact fun q => hb q.symm
       · exact hk2 j x (by omega) hjx
     · simp (disch := omega) only [go_sem]
     · simp (disch := omega) only [go_sem]
 · obtain rfl : k = l.length := by omega
   have e : decide (i ∈ l) = false := decide_eq_false fun hm => by
    obtain ⟨j, hj⟩ := List.mem_iff_getElem?.1 hm;exact hk2 j i (List.getElem?_eq_some_iff.1 hj).1 hj rfl
   simp (disch := omega) only [Aal, List.length_map, e, go_sem]
theorem Aoo (v : Vc) (r : Int) (q : Nat) : vE (Cm v (Qo r q)) = vE (A9 v r q) := Lj fun i hi => (Acg v r q i hi).symm
theorem E8 (v : Vc) (r : Int) (q : Nat) {h d} : FunOk Tryz.prog 62 [.vec 8 (vE v), .vec 2 [.i .i64 r, .i .u32 q]] h d (.vec 8 (vE (A9 v r q))) [] := by
 rw [← Aoo]; exact Uv v r q
def Dj (l : List Evt) : Vc := l.foldl (fun v e => A9 v e.rep e.seq) (fun _ => 0)
theorem Kb (l : List Evt) (e : Evt) : Dj (l ++ [e]) = A9 (Dj l) e.rep e.seq := by simp [Dj]
def Aak (f : Bool) (l : List Evt) (k : Nat) : FS := mk [(4, .pv (.i .i64 k)), (0, .pv (.sl f 21 (l.map Bd))), (3, .p 3 0), (2, .p 2 0)] [(3, some (.var (.vec 8 (vE (Dj (l.take k)))))), (2, some (.var (.vec 8 (vE fun _ => 0))))]
set_option maxHeartbeats 1000000 in
theorem Ai4 {x : SV} {f : Bool} {l : List Evt} {h d} (hx : Cq h [x] = [.pv (.sl f 21 (l.map Bd))]) (hl : Bf [x] = true) (hn : l.length ≤ 1000) : FunOk Tryz.prog 19 [x] h d (.vec 8 (vE (Dj l))) [] := by
 refine Co Af fn19 (by simp) hl (Aie _) fun F => ?_;rw [hx];simp (disch := omega) only [ir19, go_sem];refine Az Af (Aak f l) (fun k => k ≤ l.length) (fun k => l.length - k) 0 (by simp) (Ah ?_ ?_) fun k hk => ?_
 · simp (disch := omega) only [go_sem]
 · simp (disch := omega) only [Dj, List.take_zero, List.foldl_nil, go_sem]
 by_cases hlt : k < l.length
 · have hx : l[k]? = some l[k] := List.getElem?_eq_getElem hlt;have he : (l.map Bd)[k]? = some (Bd l[k]) := by rw [List.getElem?_map, hx]; rfl
   have ht := Cz hx;generalize l[k] = e at *;have hs : Dj (l.take (k + 1)) = A9 (Dj (l.take k)) e.rep e.seq := by rw [ht, Kb]
   simp (disch := omega) only [Aak, List.length_map, he, Aw, go_sem];refine Aa (E8 _ _ _) ?_;simp (disch := omega) only [go_sem];refine Ad (k + 1) _ _ rfl (by omega) (by omega) ?_ ?_
   · simp (disch := omega) only [go_sem]
   · simp (disch := omega) only [hs, go_sem]
 · obtain rfl : k = l.length := by omega
   have htk : l.take l.length = l := List.take_length;simp (disch := omega) only [Aak, List.length_map, htk, go_sem]
def Ip (l : List Evt) (i : Bn) : Option Evt := l.find? fun e => decide (Ak e = i)
def Aan (f : Bool) (l : List Evt) (i : Bn) (z : SV) (k : Nat) : FS := mk [(6, .pv (.i .i64 k)), (0, .pv (.sl f 21 (l.map Bd))), (3, .p 3 0), (4, .p 4 0)] [(3, some (.var (.vec 2 [.i .i64 i.1, .i .u32 i.2]))), (4, some (.var z))]
theorem Ays {l : List Evt} {i : Bn} {k : Nat} {e : Evt} (h : ∀ j x, j < k → l[j]? = some x → Ak x ≠ i) (hx : l[k]? = some e) (he : Ak e = i) : Ip l i = some e := by
 obtain ⟨hlt, hg⟩ := List.getElem?_eq_some_iff.1 hx;unfold Ip;rw [List.find?_eq_some_iff_getElem];refine ⟨by simpa using he, k, hlt, hg, fun j hj => ?_⟩;simpa using h j _ hj (List.getElem?_eq_getElem (by omega))
theorem Am1 {l : List Evt} {i : Bn} (h : ∀ j x, j < l.length → l[j]? = some x → Ak x ≠ i) : Ip l i = none := by
 unfold Ip;rw [List.find?_eq_none];intro x hx;obtain ⟨j, hj⟩ := List.mem_iff_getElem?.1 hx;simpa using h j x (List.getElem?_eq_some_iff.1 hj).1 hj
set_option maxHeartbeats 1000000 in
theorem Aqr {f : Bool} {l : List Evt} (i : Bn) {h d} (hn : l.length ≤ 1000) : FunOk Tryz.prog 52 [.pv (.sl f 21 (l.map Bd)), .vec 2 [.i .i64 i.1, .i .u32 i.2]] h d (match Ip l i with | some e => .tup [.vec 21 (Bd e), .pv (.b true)] | none => .tup [.vec 21 (Bd ⟨0, 0, fun _ => 0, 0, 0, 0, 0, 0, [], .nil, .nil, 0, [], 0⟩), .pv (.b false)]) [] := by
 refine Ta Af fn52 (by simp) rfl (by split <;> rfl) fun F => ?_;simp (disch := omega) only [ir52, List.length_map, go_sem];refine Az Af (Aan f l i (.agg [.pv (.i .i64 0), .pv (.i .u32 0), .vec 8 (vE fun _ => 0), .pv (.i .i64 0), .pv (.i .i64 0), .pv (.i .u32 0), .pv (.i .i64 0), .pv (.i .u32 0), .pv (.s []), .pv (.sl true 0 []), .pv (.sl true 0 []), .pv (.i .i64 0), .pv (.s []), .pv (.i .i64 0)])) (fun k => k ≤ l.length ∧ ∀ j x, j < k → l[j]? = some x → Ak x ≠ i) (fun k => l.length - k) 0 ⟨by simp, fun j x hj => absurd hj (Nat.not_lt_zero j)⟩ (Ah ?_ ?_) fun k hk => ?_
 · simp (disch := omega) only [go_sem]
 · simp (disch := omega) only [go_sem]
 obtain ⟨hk1, hk2⟩ := hk;by_cases hlt : k < l.length
 · have hx : l[k]? = some l[k] := List.getElem?_eq_getElem hlt;have he : (l.map Bd)[k]? = some (Bd l[k]) := by rw [List.getElem?_map, hx]; rfl
   generalize l[k] = e at *;by_cases hb : Ak e = i
   · have hp := Fp hb;have hf := Ays hk2 hx hb;rw [hf]
     (try simp only [Cg, Cf, Ce, Cd, Cc, Cb, Ca, B9]); simp (disch := omega) only [Aan, List.length_map, he, Aw, Ae, hp, Bg, go_sem]
     refine B0 ?_;simp (disch := omega) only [go_sem]
   · have hp := Fq hb;simp (disch := omega) only [Aan, List.length_map, he, Aw, Ae, hp, go_sem];refine Ad (k + 1) _ _ rfl ⟨by omega, fun j x hj hjx => ?_⟩ (by omega) ?_ ?_
     · by_cases ej : j = k
       · subst ej; rw [hx] at hjx; cases hjx; exact hb
       · exact hk2 j x (by omega) hjx
     · simp (disch := omega) only [go_sem]
     · simp (disch := omega) only [go_sem]
 · obtain rfl : k = l.length := by omega
   rw [Am1 hk2]
   (try simp only [Cg, Cf, Ce, Cd, Cc, Cb, Ca, B9]); simp (disch := omega) only [Aan, List.length_map, go_sem]
   refine B0 ?_;simp (disch := omega) only [go_sem];exact Un (Gu rfl (by simp [Ac]))
theorem K3 (e : Evt) {h d} : FunOk Tryz.prog 132 [.vec 21 (Bd e)] h d (.pv (.b (decide (e.kind = 3 ∨ e.kind = 4 ∨ e.kind = 5)))) [] := by
 refine Am Af fn132 (by simp) rfl rfl fun F => ?_;by_cases h3 : e.kind = 3
 · simp (disch := omega) only [ir132, Ag, h3, go_sem]
 by_cases h4 : e.kind = 4
 · simp (disch := omega) only [ir132, Ag, h4, go_sem]
 by_cases h5 : e.kind = 5
 · simp (disch := omega) only [ir132, Ag, h5, go_sem]
 · simp (disch := omega) only [ir132, Ag, h3, h4, h5, go_sem]
def Yc (s : List UInt8) (n : Int) : List UInt8 := if n < 0 ∨ 200 < n then [] else Ot s n.toNat
open Classical in
noncomputable def Kq (s : List UInt8) (n : Int) (t : List UInt8) : List UInt8 := if D7 s n t then [] else I0 s n.toNat t
noncomputable def Gj (e : Evt) (was : List UInt8) : List UInt8 := if e.kind = 5 then e.data else if e.kind = 4 then Yc was e.off else Kq was e.off e.data
noncomputable def Dc (l : List Evt) : Nat → Bn → List UInt8
 | 0, _ => []
 | n + 1, i => match Ip l i with
   | none => []
   | some e => Gj e (match e.base.l with | [] => [] | b :: _ => Dc l n b)
theorem Aes (s : List UInt8) (n : Nat) : (Ot s n).length = n := by
 unfold Ot; split
 · simp; omega
 · simp [Ry]; omega
theorem Wr (s t : List UInt8) (n : Nat) : (I0 s n t).length = max s.length (n + t.length) := by
 unfold I0; simp [Ry]; omega
theorem Akr {e : Evt} (he : e.data.length ≤ 1000) (was : List UInt8) : (Gj e was).length ≤ 1000 := by
 unfold Gj;split
 · exact he
 · split
   · unfold Yc; split
     · simp
     · rw [Aes]; omega
   · unfold Kq; split
     · simp
     · rename_i h;unfold D7 at h;rw [Wr]; omega
theorem Ahn {l : List Evt} (h : ∀ e ∈ l, e.data.length ≤ 1000) (n : Nat) (i : Bn) : (Dc l n i).length ≤ 1000 := by
 cases n with
 | zero => simp [Dc]
 | succ n =>
   simp only [Dc];split
   · simp
   · rename_i e he;exact Akr (h e (List.mem_of_find?_eq_some he)) _
def Grd (l : List Evt) (rk : Evt → Nat) : Prop := ∀ e ∈ l, e.kind ≠ 5 → ∀ b t, e.base.l = b :: t → ∀ e', Ip l b = some e' → rk e' < rk e
theorem Aa8 {l : List Evt} {i : Bn} (hn : l.length ≤ 1000) (hf : Ip l i = none) {x : SV} {f : Bool} {h d} (hx : Cq h [x, .vec 2 [.i .i64 i.1, .i .u32 i.2]] = [.pv (.sl f 21 (l.map Bd)), .vec 2 [.i .i64 i.1, .i .u32 i.2]]) (hl : Bf [x, .vec 2 [.i .i64 i.1, .i .u32 i.2]] = true) :
 FunOk Tryz.prog 133 [x, .vec 2 [.i .i64 i.1, .i .u32 i.2]] h d (.pv (.s [])) [] := by
 refine Co Af fn133 (by simp) hl rfl fun F => ?_;rw [hx];simp (disch := omega) only [ir133, go_sem];refine Aa (Aqr (l := l) i hn) ?_;rw [hf]
 (try simp only [Cg, Cf, Ce, Cd, Cc, Cb, Ca, B9]); simp (disch := omega) only [Ac, go_sem]
set_option maxHeartbeats 4000000 in
theorem Adp {l : List Evt} {rk : Evt → Nat} (hg : Grd l rk) (hn : l.length ≤ 1000) (hev : ∀ e ∈ l, ev e ∧ e.data.length ≤ 1000) : ∀ (n : Nat) (i : Bn), (∀ e, Ip l i = some e → rk e < n) → ∀ (x : SV) (f : Bool) (h : Nat → Option Blk) (d : Nat), Cq h [x, .vec 2 [.i .i64 i.1, .i .u32 i.2]] = [.pv (.sl f 21 (l.map Bd)), .vec 2 [.i .i64 i.1, .i .u32 i.2]] → Bf [x, .vec 2 [.i .i64 i.1, .i .u32 i.2]] = true →
 FunOk Tryz.prog 133 [x, .vec 2 [.i .i64 i.1, .i .u32 i.2]] h d (.pv (.s (Dc l n i))) []
 | 0, i, hr => by
   intro x f h d hx hl;have hf : Ip l i = none := by
    cases hq : Ip l i with
    | none => rfl
    | some e => exact absurd (hr e hq) (Nat.not_lt_zero _)
   exact Aa8 hn hf hx hl
 | n + 1, i, hr => by
   intro x f h d hx hl;refine Co Af fn133 (by simp) hl rfl fun F => ?_;rw [hx];simp (disch := omega) only [ir133, go_sem];refine Aa (Aqr (l := l) i hn) ?_;cases hf : Ip l i with
   | none =>
     have eB : Dc l (n + 1) i = [] := by simp only [Dc, hf]
     (try simp only [Cg, Cf, Ce, Cd, Cc, Cb, Ca, B9]); simp (disch := omega) only [eB, Ac, go_sem]
   | some e =>
     have hm := List.mem_of_find?_eq_some hf;obtain ⟨he, hd⟩ := hev e hm;have hpv : e.base.pv = .sl e.base.f e.base.z (e.base.l.map Eb) := rfl;have hel := Ac e;by_cases h5 : e.kind = 5
     · have eB : Dc l (n + 1) i = e.data := by simp only [Dc, hf, Gj, if_pos h5]
       (try simp only [Cg, Cf, Ce, Cd, Cc, Cb, Ca, B9]); simp (disch := omega) only [hel, Ag, h5, Hf, eB, go_sem]
     cases hbl : e.base.l with
     | nil =>
       obtain ⟨was, hwas⟩ : ∃ was : List UInt8, was = [] := ⟨_, rfl⟩
       have hwl : was.length ≤ 1000 := by rw [hwas]; simp
       have eB : Dc l (n + 1) i = Gj e was := by simp only [Dc, hf, hbl]; rw [hwas]
       (try simp only [Cg, Cf, Ce, Cd, Cc, Cb, Ca, B9]); simp (disch := omega) only [hel, Ag, h5, Fi, hpv, hbl, List.map_nil, ← hwas, go_sem]
       by_cases h4 : e.kind = 4
       · have eS : Gj e was = Yc was e.off := by unfold Gj; rw [if_neg h5, if_pos h4]
         (try simp only [Cg, Cf, Ce, Cd, Cc, Cb, Ca, B9]); simp (disch := omega) only [Ag, h4, Jd, go_sem]
         refine Aa (Aqy was e.off hwl) ?_;by_cases hb : e.off < 0 ∨ 200 < e.off
         · have ec := Jl (data := was) hb;have ew : Yc was e.off = [] := if_pos hb;simp (disch := omega) only [ec, eB, eS, ew, go_sem]
         · have ec := Le (data := was) hb;have ew : Yc was e.off = Ot was e.off.toNat := if_neg hb;simp (disch := omega) only [ec, eB, eS, ew, go_sem]
       · have eS : Gj e was = Kq was e.off e.data := by unfold Gj; rw [if_neg h5, if_neg h4]
         (try simp only [Cg, Cf, Ce, Cd, Cc, Cb, Ca, B9]); simp (disch := omega) only [Ag, h4, Jd, Hf, go_sem]
         refine Aa (Adh was e.data e.off hd) ?_;by_cases hb : D7 was e.off e.data
         · have ec := Ei hb;have ew : Kq was e.off e.data = [] := if_pos hb;simp (disch := omega) only [ec, eB, eS, ew, go_sem]
         · have ec := Ji hb;have ew : Kq was e.off e.data = I0 was e.off.toNat e.data := if_neg hb;simp (disch := omega) only [ec, eB, eS, ew, go_sem]
     | cons b t =>
       have hok : e.base.z = 2 := he.2.1.resolve_left (by rw [hbl]; simp);have h0 : (List.map Eb (b :: t))[0]? = some (Eb b) := rfl;have hpos : (0 : Int) < ((t.length : Int) + 1) := by omega
       have hrk := hg e hm h5 b t hbl;have hre := hr e hf
       (try simp only [Cg, Cf, Ce, Cd, Cc, Cb, Ca, B9]); simp (disch := omega) only [hel, Ag, h5, Fi, hpv, hbl, hok, List.length_map, h0, Ej, go_sem]
       refine Aa (Adp hg hn hev n b (fun e' he' => by have := hrk e' he'; omega) _ f _ _ rfl rfl) ?_;have eB : Dc l (n + 1) i = Gj e (Dc l n b) := by simp only [Dc, hf, hbl]
       have hwl := Ahn (fun e he => (hev e he).2) n b (l := l);generalize Dc l n b = was at *;simp (disch := omega) only [go_sem];by_cases h4 : e.kind = 4
       · have eS : Gj e was = Yc was e.off := by unfold Gj; rw [if_neg h5, if_pos h4]
         (try simp only [Cg, Cf, Ce, Cd, Cc, Cb, Ca, B9]); simp (disch := omega) only [Ag, h4, Jd, go_sem]
         refine Aa (Aqy was e.off hwl) ?_;by_cases hb : e.off < 0 ∨ 200 < e.off
         · have ec := Jl (data := was) hb;have ew : Yc was e.off = [] := if_pos hb;simp (disch := omega) only [ec, eB, eS, ew, go_sem]
         · have ec := Le (data := was) hb;have ew : Yc was e.off = Ot was e.off.toNat := if_neg hb;simp (disch := omega) only [ec, eB, eS, ew, go_sem]
       · have eS : Gj e was = Kq was e.off e.data := by unfold Gj; rw [if_neg h5, if_neg h4]
         (try simp only [Cg, Cf, Ce, Cd, Cc, Cb, Ca, B9]); simp (disch := omega) only [Ag, h4, Jd, Hf, go_sem]
         refine Aa (Adh was e.data e.off hd) ?_;by_cases hb : D7 was e.off e.data
         · have ec := Ei hb;have ew : Kq was e.off e.data = [] := if_pos hb;simp (disch := omega) only [ec, eB, eS, ew, go_sem]
         · have ec := Ji hb;have ew : Kq was e.off e.data = I0 was e.off.toNat e.data := if_neg hb;simp (disch := omega) only [ec, eB, eS, ew, go_sem]
def mkB (e : Evt) : Bool := decide (e.kind = 1 ∨ e.kind = 2 ∨ e.kind = 7)
def Ey (e : Evt) : Bn := if e.kind = 7 then Ay e else Ak e
def Hu (f : Evt) (obj id : Bn) : Bool := decide (f.kind = 6 ∨ f.kind = 7) && (decide (Ay f = obj) && decide (id ∈ f.gone.l))
def byG (l : List Evt) (obj id : Bn) : Vc := l.foldl (fun g f => if Hu f obj id = true then A9 g f.rep f.seq else g) fun _ => 0
theorem Rk (l : List Evt) (f : Evt) (obj id : Bn) : byG (l ++ [f]) obj id = if Hu f obj id = true then A9 (byG l obj id) f.rep f.seq else byG l obj id := by simp [byG]
def C8 (m : List Evt) (e : Evt) : Ent := ⟨Ak e, Hk e, e.name, Ey e, byG m (Ey e) (Ak e)⟩
def C2 (l m : List Evt) : List Ent := m.foldl (fun out e => if mkB e = true then Fg out (C8 l e) false else out) []
theorem Pv (l m : List Evt) (e : Evt) : C2 l (m ++ [e]) = if mkB e = true then Fg (C2 l m) (C8 l e) false else C2 l m := by simp [C2]
theorem Si : ∀ (l : List Ent) (x : Ent) (b : Bool), (Fg l x b).length ≤ l.length + 1
 | [], x, b => by unfold Fg; split <;> simp
 | y :: l, x, b => by
   unfold Fg;split
   · have := Si l x true; simp only [List.length_cons]; omega
   · split
     · have : Fg l x true = Fg l x true := rfl;have h2 : ∀ l : List Ent, (Fg l x true).length ≤ l.length := fun l => by
        induction l with
        | nil => simp [Fg]
        | cons z l ih => unfold Fg; split <;> simp <;> omega
       have := h2 l;simp only [List.length_cons]; omega
     · have := Si l x b; simp only [List.length_cons]; omega
theorem Tc (l : List Evt) : ∀ (n : Nat) (m : List Evt), m.length = n → (C2 l m).length ≤ n
 | 0, m, h => by obtain rfl := List.eq_nil_of_length_eq_zero h; simp [C2]
 | n + 1, m, h => by
   have hne : m ≠ [] := fun e => by subst e; simp at h
   have e1 := (List.dropLast_concat_getLast hne).symm;have h1 := Tc l n m.dropLast (by simp [h]);rw [e1, Pv];split
   · have := Si (C2 l m.dropLast) (C8 l (m.getLast hne)) false; omega
   · omega
def Yj (f : Bool) (l : List Evt) (k : Nat) : FS := mk [(4, .pv (.i .i64 k)), (3, .os 40), (0, .pv (.sl f 21 (l.map Bd)))] [(40, some (.row 15 ((C2 l (l.take k)).map Bm)))]
def Eh (f : Bool) (l : List Evt) (k : Nat) (e : Evt) (j : Nat) : FS := mk [(7, .pv (.i .i64 j)), (4, .pv (.i .i64 k)), (3, .os 40), (6, .p 6 0), (0, .pv (.sl f 21 (l.map Bd)))] [(6, some (.var (.vec 15 (Bm (C8 (l.take j) e))))), (40, some (.row 15 ((C2 l (l.take k)).map Bm)))]
set_option maxHeartbeats 8000000 in
theorem Yy {x : SV} {f : Bool} {l : List Evt} {h d} (hx : Cq h [x] = [.pv (.sl f 21 (l.map Bd))]) (hl : Bf [x] = true) (hn : l.length ≤ 1000) (hev : ∀ e ∈ l, ev e) : FunOk Tryz.prog 59 [x] h d (.pv (.sl false 15 ((C2 l l).map Bm))) [] := by
 refine Zh Af fn59 (by simp) hl (Jk _) fun F => ?_;rw [hx];simp (disch := omega) only [ir59, go_sem];refine Az Af (Yj f l) (fun k => k ≤ l.length) (fun k => l.length - k) 0 (by simp) (O8 3 40 15 rfl (by omega) (Ah ?_ ?_)) fun k hk => ?_
 · simp (disch := omega) only [go_sem]
 · simp (disch := omega) only [C2, List.take_zero, List.foldl_nil, List.map_nil, go_sem]
 by_cases hlt : k < l.length
 · have hx : l[k]? = some l[k] := List.getElem?_eq_getElem hlt;have he : (l.map Bd)[k]? = some (Bd l[k]) := by rw [List.getElem?_map, hx]; rfl
   have ht := Cz hx;have hel := Ac l[k];have hsn := Pv l (l.take k) l[k];rw [← ht] at hsn;generalize l[k] = e at *;have hlen := Tc l _ (l.take k) rfl;have hlt' : (l.take k).length ≤ 1000 := by simp; omega
   by_cases hmk : mkB e = true;rotate_left
   · rw [if_neg hmk] at hsn;have hk3 : ¬ (e.kind = 1 ∨ e.kind = 2 ∨ e.kind = 7) := by simpa [mkB] using hmk
     have n1 : ¬ e.kind = 1 := by omega
     have n2 : ¬ e.kind = 2 := by omega
     have n7 : ¬ e.kind = 7 := by omega
     simp (disch := omega) only [Yj, List.length_map, he, Bg, hel, Ag, n1, n2, n7, go_sem];refine Ad (k + 1) _ _ rfl (by omega) (by omega) ?_ ?_
     · simp (disch := omega) only [go_sem]
     · simp (disch := omega) only [hsn, go_sem]
   rw [if_pos hmk] at hsn;have hk3 : e.kind = 1 ∨ e.kind = 2 ∨ e.kind = 7 := by simpa [mkB] using hmk
   rcases hk3 with h1 | h2 | h7
   · have hoi : Ey e = Ak e := if_neg (by omega);simp (disch := omega) only [Yj, List.length_map, he, Bg, hel, Ag, h1, Aw, Dh, Du, go_sem];refine Az Af (Eh f l k e) (fun j => j ≤ l.length) (fun j => l.length - j) 0 (by simp) (Ah ?_ ?_) fun j hj => ?_
     · simp (disch := omega) only [go_sem]
     · simp (disch := omega) only [C8, byG, List.take_zero, List.foldl_nil, hoi, go_sem];exact Gu rfl (Dr _)
     by_cases hjl : j < l.length
     · have hx2 : l[j]? = some l[j] := List.getElem?_eq_getElem hjl;have he2 : (l.map Bd)[j]? = some (Bd l[j]) := by rw [List.getElem?_map, hx2]; rfl
       have ht2 := Cz hx2;have hevj := hev _ (List.getElem_mem hjl);generalize l[j] = g at *;have hB : C8 (l.take (j + 1)) e = if Hu g (Ey e) (Ak e) = true then { C8 (l.take j) e with gone := A9 (C8 (l.take j) e).gone g.rep g.seq } else C8 (l.take j) e := by
        unfold C8; rw [ht2, Rk]; split <;> rfl
       have hob : (C8 (l.take j) e).obj = Ey e := rfl;have hid : (C8 (l.take j) e).id = Ak e := rfl;generalize hX : C8 (l.take j) e = X at *;by_cases hg : g.kind = 6 ∨ g.kind = 7;rotate_left
       · have g6 : ¬ g.kind = 6 := fun q => hg (.inl q);have g7 : ¬ g.kind = 7 := fun q => hg (.inr q);have hgo : ¬ Hu g (Ey e) (Ak e) = true := by unfold Hu; simp [hg]
         rw [if_neg hgo] at hB;simp (disch := omega) only [Eh, hX, List.length_map, he2, Ag, g6, g7, go_sem];refine Ad (j + 1) _ _ rfl (by omega) (by omega) ?_ ?_
         · simp (disch := omega) only [go_sem]
         · simp (disch := omega) only [hB, go_sem]
       have hg' := hg;rcases hg with hg6 | hg7
       · skip
         by_cases ho : Ay g = X.obj;rotate_left
         · have hp := Fq ho;have hgo : ¬ Hu g (Ey e) (Ak e) = true := by
            rw [hob] at ho; unfold Hu; simp [ho]
           rw [if_neg hgo] at hB;simp (disch := omega) only [Eh, hX, List.length_map, he2, Ag, hg6, A8, C6, Ae, Bo, hp, go_sem];refine Ad (j + 1) _ _ rfl (by omega) (by omega) ?_ ?_
           · simp (disch := omega) only [go_sem]
           · simp (disch := omega) only [hB, go_sem]
         have hp := Fp ho;have hpv : g.gone.pv = .sl g.gone.f g.gone.z (g.gone.l.map Eb) := rfl;simp (disch := omega) only [Eh, hX, List.length_map, he2, Ag, hg6, A8, C6, Ae, Bo, hp, F9, Di, go_sem];refine Aa (Pj g.gone X.id hevj.1 hevj.2.2.1) ?_;by_cases hin : X.id ∈ g.gone.l
         · have hgo : Hu g (Ey e) (Ak e) = true := by
            rw [hob] at ho; rw [hid] at hin; unfold Hu; simp [hg', ho, hin]
           rw [if_pos hgo] at hB;have hsp := G4 X (A9 X.gone g.rep g.seq);have hvl := Bi (A9 X.gone g.rep g.seq);simp (disch := omega) only [hin, Im, List.length_map, he2, Aw, go_sem];refine Aa (E8 _ _ _) ?_;simp (disch := omega) only [hsp, hvl, go_sem];refine Ad (j + 1) _ _ rfl (by omega) (by omega) ?_ ?_
           · simp (disch := omega) only [go_sem]
           · simp (disch := omega) only [hB, go_sem]
         · have hgo : ¬ Hu g (Ey e) (Ak e) = true := by
            rw [hid] at hin; unfold Hu; simp [hin]
           rw [if_neg hgo] at hB;simp (disch := omega) only [hin, go_sem];refine Ad (j + 1) _ _ rfl (by omega) (by omega) ?_ ?_
           · simp (disch := omega) only [go_sem]
           · simp (disch := omega) only [hB, go_sem]
       · have g6 : ¬ g.kind = 6 := by omega
         by_cases ho : Ay g = X.obj;rotate_left
         · have hp := Fq ho;have hgo : ¬ Hu g (Ey e) (Ak e) = true := by
            rw [hob] at ho; unfold Hu; simp [ho]
           rw [if_neg hgo] at hB;simp (disch := omega) only [Eh, hX, List.length_map, he2, Ag, g6, hg7, A8, C6, Ae, Bo, hp, go_sem];refine Ad (j + 1) _ _ rfl (by omega) (by omega) ?_ ?_
           · simp (disch := omega) only [go_sem]
           · simp (disch := omega) only [hB, go_sem]
         have hp := Fp ho;have hpv : g.gone.pv = .sl g.gone.f g.gone.z (g.gone.l.map Eb) := rfl;simp (disch := omega) only [Eh, hX, List.length_map, he2, Ag, g6, hg7, A8, C6, Ae, Bo, hp, F9, Di, go_sem];refine Aa (Pj g.gone X.id hevj.1 hevj.2.2.1) ?_;by_cases hin : X.id ∈ g.gone.l
         · have hgo : Hu g (Ey e) (Ak e) = true := by
            rw [hob] at ho; rw [hid] at hin; unfold Hu; simp [hg', ho, hin]
           rw [if_pos hgo] at hB;have hsp := G4 X (A9 X.gone g.rep g.seq);have hvl := Bi (A9 X.gone g.rep g.seq);simp (disch := omega) only [hin, Im, List.length_map, he2, Aw, go_sem];refine Aa (E8 _ _ _) ?_;simp (disch := omega) only [hsp, hvl, go_sem];refine Ad (j + 1) _ _ rfl (by omega) (by omega) ?_ ?_
           · simp (disch := omega) only [go_sem]
           · simp (disch := omega) only [hB, go_sem]
         · have hgo : ¬ Hu g (Ey e) (Ak e) = true := by
            rw [hid] at hin; unfold Hu; simp [hin]
           rw [if_neg hgo] at hB;simp (disch := omega) only [hin, go_sem];refine Ad (j + 1) _ _ rfl (by omega) (by omega) ?_ ?_
           · simp (disch := omega) only [go_sem]
           · simp (disch := omega) only [hB, go_sem]
     · obtain rfl : j = l.length := by omega
       have htk : l.take l.length = l := List.take_length;simp (disch := omega) only [Eh, List.length_map, htk, Fe, go_sem];refine Aa (Aa4 (l := C2 l (l.take k)) (C8 l e) rfl rfl (by omega)) ?_;simp (disch := omega) only [go_sem];refine ⟨k + 1, by omega, by omega, Ec 40 rfl (D5 99 40 (by decide) rfl (Ah ?_ ?_))⟩
       · simp (disch := omega) only [go_sem]
       · simp (disch := omega) only [hsn, go_sem]
   · have hoi : Ey e = Ak e := if_neg (by omega);have n1 : ¬ e.kind = 1 := by omega
     simp (disch := omega) only [Yj, List.length_map, he, Bg, hel, Ag, n1, h2, Aw, Dh, Du, go_sem];refine Az Af (Eh f l k e) (fun j => j ≤ l.length) (fun j => l.length - j) 0 (by simp) (Ah ?_ ?_) fun j hj => ?_
     · simp (disch := omega) only [go_sem]
     · simp (disch := omega) only [C8, byG, List.take_zero, List.foldl_nil, hoi, go_sem];exact Gu rfl (Dr _)
     by_cases hjl : j < l.length
     · have hx2 : l[j]? = some l[j] := List.getElem?_eq_getElem hjl;have he2 : (l.map Bd)[j]? = some (Bd l[j]) := by rw [List.getElem?_map, hx2]; rfl
       have ht2 := Cz hx2;have hevj := hev _ (List.getElem_mem hjl);generalize l[j] = g at *;have hB : C8 (l.take (j + 1)) e = if Hu g (Ey e) (Ak e) = true then { C8 (l.take j) e with gone := A9 (C8 (l.take j) e).gone g.rep g.seq } else C8 (l.take j) e := by
        unfold C8; rw [ht2, Rk]; split <;> rfl
       have hob : (C8 (l.take j) e).obj = Ey e := rfl;have hid : (C8 (l.take j) e).id = Ak e := rfl;generalize hX : C8 (l.take j) e = X at *;by_cases hg : g.kind = 6 ∨ g.kind = 7;rotate_left
       · have g6 : ¬ g.kind = 6 := fun q => hg (.inl q);have g7 : ¬ g.kind = 7 := fun q => hg (.inr q);have hgo : ¬ Hu g (Ey e) (Ak e) = true := by unfold Hu; simp [hg]
         rw [if_neg hgo] at hB;simp (disch := omega) only [Eh, hX, List.length_map, he2, Ag, g6, g7, go_sem];refine Ad (j + 1) _ _ rfl (by omega) (by omega) ?_ ?_
         · simp (disch := omega) only [go_sem]
         · simp (disch := omega) only [hB, go_sem]
       have hg' := hg;rcases hg with hg6 | hg7
       · skip
         by_cases ho : Ay g = X.obj;rotate_left
         · have hp := Fq ho;have hgo : ¬ Hu g (Ey e) (Ak e) = true := by
            rw [hob] at ho; unfold Hu; simp [ho]
           rw [if_neg hgo] at hB;simp (disch := omega) only [Eh, hX, List.length_map, he2, Ag, hg6, A8, C6, Ae, Bo, hp, go_sem];refine Ad (j + 1) _ _ rfl (by omega) (by omega) ?_ ?_
           · simp (disch := omega) only [go_sem]
           · simp (disch := omega) only [hB, go_sem]
         have hp := Fp ho;have hpv : g.gone.pv = .sl g.gone.f g.gone.z (g.gone.l.map Eb) := rfl;simp (disch := omega) only [Eh, hX, List.length_map, he2, Ag, hg6, A8, C6, Ae, Bo, hp, F9, Di, go_sem];refine Aa (Pj g.gone X.id hevj.1 hevj.2.2.1) ?_;by_cases hin : X.id ∈ g.gone.l
         · have hgo : Hu g (Ey e) (Ak e) = true := by
            rw [hob] at ho; rw [hid] at hin; unfold Hu; simp [hg', ho, hin]
           rw [if_pos hgo] at hB;have hsp := G4 X (A9 X.gone g.rep g.seq);have hvl := Bi (A9 X.gone g.rep g.seq);simp (disch := omega) only [hin, Im, List.length_map, he2, Aw, go_sem];refine Aa (E8 _ _ _) ?_;simp (disch := omega) only [hsp, hvl, go_sem];refine Ad (j + 1) _ _ rfl (by omega) (by omega) ?_ ?_
           · simp (disch := omega) only [go_sem]
           · simp (disch := omega) only [hB, go_sem]
         · have hgo : ¬ Hu g (Ey e) (Ak e) = true := by
            rw [hid] at hin; unfold Hu; simp [hin]
           rw [if_neg hgo] at hB;simp (disch := omega) only [hin, go_sem];refine Ad (j + 1) _ _ rfl (by omega) (by omega) ?_ ?_
           · simp (disch := omega) only [go_sem]
           · simp (disch := omega) only [hB, go_sem]
       · have g6 : ¬ g.kind = 6 := by omega
         by_cases ho : Ay g = X.obj;rotate_left
         · have hp := Fq ho;have hgo : ¬ Hu g (Ey e) (Ak e) = true := by
            rw [hob] at ho; unfold Hu; simp [ho]
           rw [if_neg hgo] at hB;simp (disch := omega) only [Eh, hX, List.length_map, he2, Ag, g6, hg7, A8, C6, Ae, Bo, hp, go_sem];refine Ad (j + 1) _ _ rfl (by omega) (by omega) ?_ ?_
           · simp (disch := omega) only [go_sem]
           · simp (disch := omega) only [hB, go_sem]
         have hp := Fp ho;have hpv : g.gone.pv = .sl g.gone.f g.gone.z (g.gone.l.map Eb) := rfl;simp (disch := omega) only [Eh, hX, List.length_map, he2, Ag, g6, hg7, A8, C6, Ae, Bo, hp, F9, Di, go_sem];refine Aa (Pj g.gone X.id hevj.1 hevj.2.2.1) ?_;by_cases hin : X.id ∈ g.gone.l
         · have hgo : Hu g (Ey e) (Ak e) = true := by
            rw [hob] at ho; rw [hid] at hin; unfold Hu; simp [hg', ho, hin]
           rw [if_pos hgo] at hB;have hsp := G4 X (A9 X.gone g.rep g.seq);have hvl := Bi (A9 X.gone g.rep g.seq);simp (disch := omega) only [hin, Im, List.length_map, he2, Aw, go_sem];refine Aa (E8 _ _ _) ?_;simp (disch := omega) only [hsp, hvl, go_sem];refine Ad (j + 1) _ _ rfl (by omega) (by omega) ?_ ?_
           · simp (disch := omega) only [go_sem]
           · simp (disch := omega) only [hB, go_sem]
         · have hgo : ¬ Hu g (Ey e) (Ak e) = true := by
            rw [hid] at hin; unfold Hu; simp [hin]
           rw [if_neg hgo] at hB;simp (disch := omega) only [hin, go_sem];refine Ad (j + 1) _ _ rfl (by omega) (by omega) ?_ ?_
           · simp (disch := omega) only [go_sem]
           · simp (disch := omega) only [hB, go_sem]
     · obtain rfl : j = l.length := by omega
       have htk : l.take l.length = l := List.take_length;simp (disch := omega) only [Eh, List.length_map, htk, Fe, go_sem];refine Aa (Aa4 (l := C2 l (l.take k)) (C8 l e) rfl rfl (by omega)) ?_;simp (disch := omega) only [go_sem];refine ⟨k + 1, by omega, by omega, Ec 40 rfl (D5 99 40 (by decide) rfl (Ah ?_ ?_))⟩
       · simp (disch := omega) only [go_sem]
       · simp (disch := omega) only [hsn, go_sem]
   · have hoi : Ey e = Ay e := if_pos h7;have n1 : ¬ e.kind = 1 := by omega
     have n2 : ¬ e.kind = 2 := by omega
     simp (disch := omega) only [Yj, List.length_map, he, Bg, hel, Ag, n1, n2, h7, Aw, Dh, Du, A8, go_sem];refine Az Af (Eh f l k e) (fun j => j ≤ l.length) (fun j => l.length - j) 0 (by simp) (Ah ?_ ?_) fun j hj => ?_
     · simp (disch := omega) only [go_sem]
     · simp (disch := omega) only [C8, byG, List.take_zero, List.foldl_nil, hoi, go_sem];exact Gu rfl (Dr _)
     by_cases hjl : j < l.length
     · have hx2 : l[j]? = some l[j] := List.getElem?_eq_getElem hjl;have he2 : (l.map Bd)[j]? = some (Bd l[j]) := by rw [List.getElem?_map, hx2]; rfl
       have ht2 := Cz hx2;have hevj := hev _ (List.getElem_mem hjl);generalize l[j] = g at *;have hB : C8 (l.take (j + 1)) e = if Hu g (Ey e) (Ak e) = true then { C8 (l.take j) e with gone := A9 (C8 (l.take j) e).gone g.rep g.seq } else C8 (l.take j) e := by
        unfold C8; rw [ht2, Rk]; split <;> rfl
       have hob : (C8 (l.take j) e).obj = Ey e := rfl;have hid : (C8 (l.take j) e).id = Ak e := rfl;generalize hX : C8 (l.take j) e = X at *;by_cases hg : g.kind = 6 ∨ g.kind = 7;rotate_left
       · have g6 : ¬ g.kind = 6 := fun q => hg (.inl q);have g7 : ¬ g.kind = 7 := fun q => hg (.inr q);have hgo : ¬ Hu g (Ey e) (Ak e) = true := by unfold Hu; simp [hg]
         rw [if_neg hgo] at hB;simp (disch := omega) only [Eh, hX, List.length_map, he2, Ag, g6, g7, go_sem];refine Ad (j + 1) _ _ rfl (by omega) (by omega) ?_ ?_
         · simp (disch := omega) only [go_sem]
         · simp (disch := omega) only [hB, go_sem]
       have hg' := hg;rcases hg with hg6 | hg7
       · skip
         by_cases ho : Ay g = X.obj;rotate_left
         · have hp := Fq ho;have hgo : ¬ Hu g (Ey e) (Ak e) = true := by
            rw [hob] at ho; unfold Hu; simp [ho]
           rw [if_neg hgo] at hB;simp (disch := omega) only [Eh, hX, List.length_map, he2, Ag, hg6, A8, C6, Ae, Bo, hp, go_sem];refine Ad (j + 1) _ _ rfl (by omega) (by omega) ?_ ?_
           · simp (disch := omega) only [go_sem]
           · simp (disch := omega) only [hB, go_sem]
         have hp := Fp ho;have hpv : g.gone.pv = .sl g.gone.f g.gone.z (g.gone.l.map Eb) := rfl;simp (disch := omega) only [Eh, hX, List.length_map, he2, Ag, hg6, A8, C6, Ae, Bo, hp, F9, Di, go_sem];refine Aa (Pj g.gone X.id hevj.1 hevj.2.2.1) ?_;by_cases hin : X.id ∈ g.gone.l
         · have hgo : Hu g (Ey e) (Ak e) = true := by
            rw [hob] at ho; rw [hid] at hin; unfold Hu; simp [hg', ho, hin]
           rw [if_pos hgo] at hB;have hsp := G4 X (A9 X.gone g.rep g.seq);have hvl := Bi (A9 X.gone g.rep g.seq);simp (disch := omega) only [hin, Im, List.length_map, he2, Aw, go_sem];refine Aa (E8 _ _ _) ?_;simp (disch := omega) only [hsp, hvl, go_sem];refine Ad (j + 1) _ _ rfl (by omega) (by omega) ?_ ?_
           · simp (disch := omega) only [go_sem]
           · simp (disch := omega) only [hB, go_sem]
         · have hgo : ¬ Hu g (Ey e) (Ak e) = true := by
            rw [hid] at hin; unfold Hu; simp [hin]
           rw [if_neg hgo] at hB;simp (disch := omega) only [hin, go_sem];refine Ad (j + 1) _ _ rfl (by omega) (by omega) ?_ ?_
           · simp (disch := omega) only [go_sem]
           · simp (disch := omega) only [hB, go_sem]
       · have g6 : ¬ g.kind = 6 := by omega
         by_cases ho : Ay g = X.obj;rotate_left
         · have hp := Fq ho;have hgo : ¬ Hu g (Ey e) (Ak e) = true := by
            rw [hob] at ho; unfold Hu; simp [ho]
           rw [if_neg hgo] at hB;simp (disch := omega) only [Eh, hX, List.length_map, he2, Ag, g6, hg7, A8, C6, Ae, Bo, hp, go_sem];refine Ad (j + 1) _ _ rfl (by omega) (by omega) ?_ ?_
           · simp (disch := omega) only [go_sem]
           · simp (disch := omega) only [hB, go_sem]
         have hp := Fp ho;have hpv : g.gone.pv = .sl g.gone.f g.gone.z (g.gone.l.map Eb) := rfl;simp (disch := omega) only [Eh, hX, List.length_map, he2, Ag, g6, hg7, A8, C6, Ae, Bo, hp, F9, Di, go_sem];refine Aa (Pj g.gone X.id hevj.1 hevj.2.2.1) ?_;by_cases hin : X.id ∈ g.gone.l
         · have hgo : Hu g (Ey e) (Ak e) = true := by
            rw [hob] at ho; rw [hid] at hin; unfold Hu; simp [hg', ho, hin]
           rw [if_pos hgo] at hB;have hsp := G4 X (A9 X.gone g.rep g.seq);have hvl := Bi (A9 X.gone g.rep g.seq);simp (disch := omega) only [hin, Im, List.length_map, he2, Aw, go_sem];refine Aa (E8 _ _ _) ?_;simp (disch := omega) only [hsp, hvl, go_sem];refine Ad (j + 1) _ _ rfl (by omega) (by omega) ?_ ?_
           · simp (disch := omega) only [go_sem]
           · simp (disch := omega) only [hB, go_sem]
         · have hgo : ¬ Hu g (Ey e) (Ak e) = true := by
            rw [hid] at hin; unfold Hu; simp [hin]
           rw [if_neg hgo] at hB;simp (disch := omega) only [hin, go_sem];refine Ad (j + 1) _ _ rfl (by omega) (by omega) ?_ ?_
           · simp (disch := omega) only [go_sem]
           · simp (disch := omega) only [hB, go_sem]
     · obtain rfl : j = l.length := by omega
       have htk : l.take l.length = l := List.take_length;simp (disch := omega) only [Eh, List.length_map, htk, Fe, go_sem];refine Aa (Aa4 (l := C2 l (l.take k)) (C8 l e) rfl rfl (by omega)) ?_;simp (disch := omega) only [go_sem];refine ⟨k + 1, by omega, by omega, Ec 40 rfl (D5 99 40 (by decide) rfl (Ah ?_ ?_))⟩
       · simp (disch := omega) only [go_sem]
       · simp (disch := omega) only [hsn, go_sem]
 · obtain rfl : k = l.length := by omega
   have htk : l.take l.length = l := List.take_length;simp (disch := omega) only [Yj, List.length_map, htk, go_sem]
theorem A2y {x y : SV} {f g : Bool} {l : List Ver} {bs : List Bn} {v : Ver} {h d} (hx : Cq h [x, y, .vec 11 (Bb v)] = [.pv (.sl f 11 (l.map Bb)), .pv (.sl g 2 (bs.map Eb)), .vec 11 (Bb v)]) (hl : Bf [x, y, .vec 11 (Bb v)] = true)
 (hs : Cv l) (hn : l.length ≤ 900) (hbn : bs.length ≤ 900) (hm : ¬ Dg l bs) (ho : Bp l v.rep v.seq = none) :
 FunOk Tryz.prog 134 [x, y, .vec 11 (Bb v)] h d (.tup [.os d, .pv (.i .i64 0)]) [.new d (.row 11 ((Fl l bs v).map Bb))] := by
 refine As4 Af fn134 (by simp) hl (.inr (Yh _)) rfl fun F => ?_;rw [hx];exact Au7 hs hn hbn (fun h => absurd h hm) (fun _ h => by rw [ho] at h; cases h) (fun _ _ g n hg => ⟨n, rfl, hg⟩)
def O7 (e : Evt) : Bool := decide (e.kind = 3 ∨ e.kind = 4 ∨ e.kind = 5)
def Ze (g : Evt) (obj id : Bn) : Bool := O7 g && (decide (Ay g = obj) && decide (id ∈ g.base.l))
def gvG (l : List Evt) (obj id : Bn) : Vc := l.foldl (fun a g => if Ze g obj id = true then A9 a g.rep g.seq else a) fun _ => 0
theorem Aei (l : List Evt) (g : Evt) (obj id : Bn) : gvG (l ++ [g]) obj id = if Ze g obj id = true then A9 (gvG l obj id) g.rep g.seq else gvG l obj id := by simp [gvG]
noncomputable def Gx (l m : List Evt) (e : Evt) : Ver := ⟨e.rep, e.seq, Dc l l.length (Ak e), gvG m (Ay e) (Ak e)⟩
noncomputable def Cy (l : List Evt) (obj : Bn) (m : List Evt) : List Ver := m.foldl (fun out e => if O7 e = true ∧ Ay e = obj then Fl out [] (Gx l l e) else out) []
theorem Pa (l : List Evt) (obj : Bn) (m : List Evt) (e : Evt) : Cy l obj (m ++ [e]) = if O7 e = true ∧ Ay e = obj then Fl (Cy l obj m) [] (Gx l l e) else Cy l obj m := by simp [Cy]
theorem Alx {l : List Ver} {v x : Ver} : x ∈ Fl l [] v ↔ x = v ∨ x ∈ l := by
 unfold Fl; rw [N8];simp only [List.mem_append, List.mem_cons];have : x ∈ l ↔ x ∈ l.take (P1 l v.rep v.seq 0).1 ∨ x ∈ l.drop (P1 l v.rep v.seq 0).1 := by
  rw [← List.mem_append, List.take_append_drop]
 rw [this];constructor
 · rintro (h | h | h)
   · exact .inr (.inl h)
   · exact .inl h
   · exact .inr (.inr h)
 · rintro (h | h | h)
   · exact .inr (.inl h)
   · exact .inl h
   · exact .inr (.inr h)
theorem An6 (l : List Ver) (v : Ver) : (Fl l [] v).length = l.length + 1 := by
 unfold Fl; rw [N8];simp only [List.length_append, List.length_take, List.length_cons, List.length_drop]; omega
theorem Ab7 {l : List Ver} {v : Ver} (hs : Cv l) (hn : Bp l v.rep v.seq = none) : Cv (Fl l [] v) := by
 unfold Fl; rw [N8];have hfalse : P1 l v.rep v.seq 0 = ((P1 l v.rep v.seq 0).1, false) := by
  rcases h : P1 l v.rep v.seq 0 with ⟨i, b⟩
  cases b with
  | false => rfl
  | true =>
    obtain ⟨_, u, _, _, h4⟩ := Iu h;rw [hn] at h4; cases h4
 obtain ⟨_, _, _, _, h5, h6⟩ := H5 hs hfalse;generalize (P1 l v.rep v.seq 0).1 = p at *;simp only [Nat.sub_zero] at h5 h6;refine List.pairwise_append.2 ⟨hs.sublist (List.take_sublist _ _), List.pairwise_cons.2 ⟨fun u hu => h6 u hu, hs.sublist (List.drop_sublist _ _)⟩, fun a ha b hb => ?_⟩;rcases List.mem_cons.1 hb with rfl | hb
 · exact h5 a ha
 · have := h5 a ha;exact Pr this (h6 b hb)
theorem Nx {l : List Evt} {obj : Bn} {v : Ver} : ∀ (n : Nat) (m : List Evt), m.length = n → (v ∈ Cy l obj m ↔ ∃ e ∈ m, (O7 e = true ∧ Ay e = obj) ∧ v = Gx l l e)
 | 0, m, h => by obtain rfl := List.eq_nil_of_length_eq_zero h; simp [Cy]
 | n + 1, m, h => by
   have hne : m ≠ [] := fun e => by subst e; simp at h
   have e1 := (List.dropLast_concat_getLast hne).symm;have ih := Nx (l := l) (obj := obj) (v := v) n m.dropLast (by simp [h]);rw [e1, Pa];generalize m.getLast hne = e at *;generalize m.dropLast = m' at *;split
   · rename_i hc;rw [Alx, ih];constructor
     · rintro (rfl | ⟨f, h1, h2⟩)
       · exact ⟨e, by simp, hc, rfl⟩
       · exact ⟨f, by simp [h1], h2⟩
     · rintro ⟨f, h1, h2, h3⟩;rcases List.mem_append.1 h1 with h1 | h1
       · exact .inr ⟨f, h1, h2, h3⟩
       · rw [List.mem_singleton] at h1; subst h1; exact .inl h3
   · rename_i hc;rw [ih];constructor
     · rintro ⟨f, h1, h2⟩; exact ⟨f, by simp [h1], h2⟩
     · rintro ⟨f, h1, h2, h3⟩;rcases List.mem_append.1 h1 with h1 | h1
       · exact ⟨f, h1, h2, h3⟩
       · rw [List.mem_singleton] at h1; subst h1; exact absurd h2 hc
def NodE (l : List Evt) : Prop := (l.map Ak).Nodup
theorem Yg {l m : List Evt} {obj : Bn} {e : Evt} (hn : NodE (m ++ [e])) : Bp (Cy l obj m) e.rep e.seq = none := by
 rw [Ps];intro v hv ⟨h1, h2⟩;obtain ⟨f, hf, _, rfl⟩ := (Nx m.length m rfl).1 hv;have : Ak f = Ak e := Prod.ext h1 h2;unfold NodE at hn;rw [List.map_append, List.nodup_append] at hn;exact hn.2.2 (Ak f) (List.mem_map_of_mem hf) (Ak e) (by simp) this
theorem NodE.take {l : List Evt} (h : NodE l) (k : Nat) : NodE (l.take k) := by
 unfold NodE at *; rw [List.map_take]; exact h.sublist (List.take_sublist _ _)
theorem I8 {l : List Evt} {obj : Bn} : ∀ (n : Nat) (m : List Evt), m.length = n → NodE m → Cv (Cy l obj m) ∧ (Cy l obj m).length ≤ n
 | 0, m, h, _ => by obtain rfl := List.eq_nil_of_length_eq_zero h; exact ⟨List.Pairwise.nil, by simp [Cy]⟩
 | n + 1, m, h, hn => by
   have hne : m ≠ [] := fun e => by subst e; simp at h
   have e1 := (List.dropLast_concat_getLast hne).symm;have hn' : NodE m.dropLast := by unfold NodE at *; rw [List.map_dropLast]; exact hn.sublist (List.dropLast_sublist _)
   obtain ⟨h1, h2⟩ := I8 (l := l) (obj := obj) n m.dropLast (by simp [h]) hn';rw [e1] at hn ⊢;rw [Pa];split
   · exact ⟨Ab7 h1 (Yg hn), by rw [An6]; omega⟩
   · exact ⟨h1, by omega⟩
theorem Aw6 {l : List Ver} {v : Ver} (hs : Cv l) (hn : l.length ≤ 900) (ho : Bp l v.rep v.seq = none) {h d} (hh : h 40 = some (.row 11 (l.map Bb))) :
 FunOk Tryz.prog 134 [.os 40, .pv (.sl true 0 []), .vec 11 (Bb v)] h d (.tup [.os d, .pv (.i .i64 0)]) [.new d (.row 11 ((Fl l [] v).map Bb))] := by
 refine FunOk.imp (args' := [.os 40, .pv (.sl true 2 []), .vec 11 (Bb v)]) ?_ ⟨Imp.refl _, S4 (Hc id (.inl rfl) (.refl _)), Imp.refl _, trivial⟩ (by simp [A5, tn]);exact A2y (f := false) (g := true) (l := l) (bs := []) (by simp only [Cq, K7, hh]; rfl) rfl hs hn (by simp) (fun ⟨b, hb, _⟩ => by simp at hb) ho
structure EvsOk (l : List Evt) (rk : Evt → Nat) : Prop where
 len : l.length ≤ 400
 nod : NodE l
 ev : ∀ e ∈ l, ev e ∧ e.data.length ≤ 1000
 grd : Grd l rk
 rk : ∀ e ∈ l, rk e < l.length
noncomputable def Aoy (f : Bool) (l : List Evt) (o : Bn) (k : Nat) : FS := mk [(6, .pv (.i .i64 k)), (5, .os 40), (0, .pv (.sl f 21 (l.map Bd))), (3, .p 3 0)] [(3, some (.var (.vec 2 [.i .i64 o.1, .i .u32 o.2]))), (40, some (.row 11 ((Cy l o (l.take k)).map Bb)))]
noncomputable def Acs (f : Bool) (l : List Evt) (o : Bn) (k : Nat) (e : Evt) (j : Nat) : FS := mk [(8, .pv (.i .i64 j)), (6, .pv (.i .i64 k)), (5, .os 40), (7, .p 7 0), (0, .pv (.sl f 21 (l.map Bd))), (3, .p 3 0)] [(7, some (.var (.vec 11 (Bb (Gx l (l.take j) e))))), (3, some (.var (.vec 2 [.i .i64 o.1, .i .u32 o.2]))), (40, some (.row 11 ((Cy l o (l.take k)).map Bb)))]
theorem Aon (r : Int) (q : Nat) (s : List UInt8) (g : Vc) : Imp (.agg [.vec 2 [.i .i64 r, .i .u32 q], .pv (.s s), .vec 8 (vE g)]) (.vec 11 (Bb ⟨r, q, s, g⟩)) := Gu (by rfl) (Ha _)
set_option maxHeartbeats 8000000 in
theorem Ws {x : SV} {f : Bool} {l : List Evt} {rk : Evt → Nat} (o : Bn) {h d} (hx : Cq h [x, .vec 2 [.i .i64 o.1, .i .u32 o.2]] = [.pv (.sl f 21 (l.map Bd)), .vec 2 [.i .i64 o.1, .i .u32 o.2]]) (hl : Bf [x, .vec 2 [.i .i64 o.1, .i .u32 o.2]] = true) (hE : EvsOk l rk) : FunOk Tryz.prog 101 [x, .vec 2 [.i .i64 o.1, .i .u32 o.2]] h d (.pv (.sl false 11 ((Cy l o l).map Bb))) [] := by
 refine Zh Af fn101 (by simp) hl (Yh _) fun F => ?_;rw [hx];have hn := hE.len;simp (disch := omega) only [ir101, go_sem];refine Az Af (Aoy f l o) (fun k => k ≤ l.length) (fun k => l.length - k) 0 (by simp) (O8 5 40 11 rfl (by omega) (Ah ?_ ?_)) fun k hk => ?_
 · simp (disch := omega) only [go_sem]
 · simp (disch := omega) only [Cy, List.take_zero, List.foldl_nil, List.map_nil, go_sem]
 by_cases hlt : k < l.length
 · have hx : l[k]? = some l[k] := List.getElem?_eq_getElem hlt;have he : (l.map Bd)[k]? = some (Bd l[k]) := by rw [List.getElem?_map, hx]; rfl
   have ht := Cz hx;have hsn := Pa l o (l.take k) l[k];have hnd := hE.nod.take (k + 1);rw [ht] at hnd;rw [← ht] at hsn;have hmem := List.getElem_mem hlt;generalize l[k] = e at *;obtain ⟨hso, hle⟩ := I8 (l := l) (obj := o) _ (l.take k) rfl (hE.nod.take k);have hle' : (l.take k).length ≤ 400 := by simp; omega
   have hnew := Yg (l := l) (obj := o) hnd;have hwb : O7 e = decide (e.kind = 3 ∨ e.kind = 4 ∨ e.kind = 5) := rfl;by_cases hw : O7 e = true;rotate_left
   · rw [if_neg (fun q => hw q.1)] at hsn;have hw' : O7 e = false := by simpa using hw
     simp (disch := omega) only [Aoy, List.length_map, he, Bg, go_sem];refine Aa (K3 e) ?_;rw [← hwb, hw'];simp (disch := omega) only [go_sem];refine Ad (k + 1) _ _ rfl (by omega) (by omega) ?_ ?_
     · simp (disch := omega) only [go_sem]
     · simp (disch := omega) only [hsn, go_sem]
   by_cases ho : Ay e = o;rotate_left
   · rw [if_neg (fun q => ho q.2)] at hsn;have hp := Fq ho;simp (disch := omega) only [Aoy, List.length_map, he, Bg, go_sem];refine Aa (K3 e) ?_;rw [← hwb, hw];simp (disch := omega) only [he, A8, Ae, Bo, hp, List.length_map, go_sem];refine Ad (k + 1) _ _ rfl (by omega) (by omega) ?_ ?_
     · simp (disch := omega) only [go_sem]
     · simp (disch := omega) only [hsn, go_sem]
   rw [if_pos ⟨hw, ho⟩] at hsn;have hp := Fp ho;simp (disch := omega) only [Aoy, List.length_map, he, Bg, go_sem];refine Aa (K3 e) ?_;rw [← hwb, hw];simp (disch := omega) only [he, A8, Ae, Bo, hp, List.length_map, Aw, go_sem];refine Aa (Adp (rk := rk) hE.grd (by omega) hE.ev l.length (Ak e) (fun e' he' => hE.rk e' (List.mem_of_find?_eq_some he')) _ f _ _ rfl rfl) ?_;simp (disch := omega) only [go_sem];refine Az Af (Acs f l o k e) (fun j => j ≤ l.length) (fun j => l.length - j) 0 (by simp) (Ah ?_ ?_) fun j hj => ?_
   · simp (disch := omega) only [go_sem]
   · simp (disch := omega) only [Gx, gvG, List.take_zero, List.foldl_nil, go_sem];exact Aon _ _ _ _
   by_cases hjl : j < l.length
   · have hx2 : l[j]? = some l[j] := List.getElem?_eq_getElem hjl;have he2 : (l.map Bd)[j]? = some (Bd l[j]) := by rw [List.getElem?_map, hx2]; rfl
     have ht2 := Cz hx2;have hevj := (hE.ev _ (List.getElem_mem hjl)).1;generalize l[j] = g at *;have hB : Gx l (l.take (j + 1)) e = if Ze g (Ay e) (Ak e) = true then { Gx l (l.take j) e with gone := A9 (Gx l (l.take j) e).gone g.rep g.seq } else Gx l (l.take j) e := by
      unfold Gx; rw [ht2, Aei]; split <;> rfl
     have hid : ((Gx l (l.take j) e).rep, (Gx l (l.take j) e).seq) = Ak e := rfl;generalize hX : Gx l (l.take j) e = X at *;have hwg : O7 g = decide (g.kind = 3 ∨ g.kind = 4 ∨ g.kind = 5) := rfl;by_cases hg : O7 g = true;rotate_left
     · have hgo : ¬ Ze g (Ay e) (Ak e) = true := by unfold Ze; simp [hg]
       have hg' : O7 g = false := by simpa using hg
       rw [if_neg hgo] at hB;simp (disch := omega) only [Acs, hX, List.length_map, he2, Bg, go_sem];refine Aa (K3 g) ?_;rw [← hwg, hg'];simp (disch := omega) only [go_sem];refine Ad (j + 1) _ _ rfl (by omega) (by omega) ?_ ?_
       · simp (disch := omega) only [go_sem]
       · simp (disch := omega) only [hB, go_sem]
     by_cases hog : Ay g = o;rotate_left
     · have hp2 := Fq hog;have hgo : ¬ Ze g (Ay e) (Ak e) = true := by rw [← ho] at hog; unfold Ze; simp [hog]
       rw [if_neg hgo] at hB;simp (disch := omega) only [Acs, hX, List.length_map, he2, Bg, go_sem];refine Aa (K3 g) ?_;rw [← hwg, hg];simp (disch := omega) only [List.length_map, he2, A8, Ae, Bo, hp2, go_sem];refine Ad (j + 1) _ _ rfl (by omega) (by omega) ?_ ?_
       · simp (disch := omega) only [go_sem]
       · simp (disch := omega) only [hB, go_sem]
     have hp2 := Fp hog;have hpv : g.base.pv = .sl g.base.f g.base.z (g.base.l.map Eb) := rfl;simp (disch := omega) only [Acs, hX, List.length_map, he2, Bg, go_sem];refine Aa (K3 g) ?_;rw [← hwg, hg];simp (disch := omega) only [List.length_map, he2, A8, Ae, Bo, hp2, Fi, C1, go_sem];refine Aa (Pj g.base (X.rep, X.seq) hevj.2.1 hevj.2.2.2.1) ?_;by_cases hin : (X.rep, X.seq) ∈ g.base.l
     · have hgo : Ze g (Ay e) (Ak e) = true := by
        rw [hid] at hin; unfold Ze; simp [hg, hog, ho, hin]
       rw [if_pos hgo] at hB;have hsp := Jo X (A9 X.gone g.rep g.seq);have hvl := Bi (A9 X.gone g.rep g.seq);simp (disch := omega) only [hin, M9, List.length_map, he2, Aw, go_sem];refine Aa (E8 _ _ _) ?_;simp (disch := omega) only [hsp, hvl, go_sem];refine Ad (j + 1) _ _ rfl (by omega) (by omega) ?_ ?_
       · simp (disch := omega) only [go_sem]
       · simp (disch := omega) only [hB, go_sem]
     · have hgo : ¬ Ze g (Ay e) (Ak e) = true := by
        rw [hid] at hin; unfold Ze; simp [hin]
       rw [if_neg hgo] at hB;simp (disch := omega) only [hin, go_sem];refine Ad (j + 1) _ _ rfl (by omega) (by omega) ?_ ?_
       · simp (disch := omega) only [go_sem]
       · simp (disch := omega) only [hB, go_sem]
   · obtain rfl : j = l.length := by omega
     have htk : l.take l.length = l := List.take_length;simp (disch := omega) only [Acs, List.length_map, htk, Kr, go_sem];refine Aa (Aw6 (l := Cy l o (l.take k)) (v := Gx l l e) hso (by omega) hnew rfl) ?_;simp (disch := omega) only [go_sem];refine ⟨k + 1, by omega, by omega, Ec 40 rfl (D5 85 40 (by decide) rfl (Ah ?_ ?_))⟩
     · simp (disch := omega) only [go_sem]
     · simp (disch := omega) only [hsn, go_sem]
 · obtain rfl : k = l.length := by omega
   have htk : l.take l.length = l := List.take_length;simp (disch := omega) only [Aoy, List.length_map, htk, go_sem]
mutual
theorem Ac5 {π : Nat → Nat} : ∀ {x : SV}, x.closed = true → x.rn π = x
 | .pv _, _ => rfl
 | .vec _ _, _ => rfl
 | .pi _ _ _ _, _ => rfl
 | .dead, _ => rfl
 | .agg l, h => by simp only [SV.closed] at h; simp only [SV.rn, Se h]
 | .tup l, h => by simp only [SV.closed] at h; simp only [SV.rn, Se h]
 | .fn f l, h => by simp only [SV.closed] at h; simp only [SV.rn, Se h]
 | .p _ _, h => by simp [SV.closed] at h
 | .ps _ _, h => by simp [SV.closed] at h
 | .pr _ _ _ _, h => by simp [SV.closed] at h
 | .os _, h => by simp [SV.closed] at h
 | .ov _ _ _ _, h => by simp [SV.closed] at h
theorem Se {π : Nat → Nat} : ∀ {l : List SV}, SV.closedL l = true → SV.rnL π l = l
 | [], _ => rfl
 | x :: l, h => by
   simp only [SV.closedL, Bool.and_eq_true] at h;simp only [SV.rnL, Ac5 h.1, Se h.2]
end
mutual
theorem A6b : ∀ {x : SV}, x.closed = true → tn x = []
 | .pv _, _ => rfl
 | .vec _ _, _ => rfl
 | .pi _ _ _ _, _ => rfl
 | .dead, _ => rfl
 | .agg l, h => by simp only [SV.closed] at h; simp only [tn, N1 h]
 | .tup l, h => by simp only [SV.closed] at h; simp only [tn, N1 h]
 | .fn f l, h => by simp only [SV.closed] at h; simp only [tn, N1 h]
 | .p _ _, h => by simp [SV.closed] at h
 | .ps _ _, h => by simp [SV.closed] at h
 | .pr _ _ _ _, h => by simp [SV.closed] at h
 | .os _, h => by simp [SV.closed] at h
 | .ov _ _ _ _, h => by simp [SV.closed] at h
theorem N1 : ∀ {l : List SV}, SV.closedL l = true → A5 l = []
 | [], _ => rfl
 | x :: l, h => by
   simp only [SV.closedL, Bool.and_eq_true] at h;simp only [A5, A6b h.1, N1 h.2, List.append_nil]
end
theorem Aij (a m : Nat) : sw1 a m a = m := if_pos rfl
theorem FunOk.io {P : Program} {f : Nat} {a : List SV} {c c' x : SV} (hf : ∀ h d, h 900 = some (.var c) → FunOk P f (.p 900 0 :: a) h d x [.upd 900 (.var c')]) (ha : SV.closedL a = true) (hx : x.closed = true) (hc : c.closed = true) (hc' : c'.closed = true) {g : Nat} {h : Nat → Option Blk} {d : Nat} (hg : h g = some (.var c)) :
 FunOk P f (.p g 0 :: a) h d x [.upd g (.var c')] := by
 have h1 := (hf (fun k => h (sw1 900 g k)) d (by show h (sw1 900 g 900) = _; rw [Aij]; exact hg)).rn (π := sw1 900 g) (Up 900 g) (d' := d);simp only [SV.rnL, SV.rn, HU.rn, Blk.rn, List.map_cons, List.map_nil, Aij, Se ha, Ac5 hx, Ac5 hc'] at h1;refine h1.at fun n hn => ?_;simp only [A5, tn, N1 ha, List.append_nil, List.mem_singleton] at hn;subst hn;simp only [Up, hg, Option.map_some, Blk.rn, Ac5 hc]
theorem FunOk.quiet {P : Program} {f : Nat} {args : List SV} {h : Nat → Option Blk} {d g : Nat} {x : SV} {blk : Blk} (hf : FunOk P f args h d x [.upd g blk]) (hg : h g = some blk) (hin : g ∈ A5 args) : FunOk P f args h d x [] :=
 ⟨hf.1, fun F N ρ s a w hR hh vs hc => by
  have hs : s.h g = some blk := (hh g hin).trans hg;have e : s.hup [.upd g blk] = s := FS.ext' (fun _ => rfl) fun n => by
   simp only [FS.hup, FS.seth];split
   · rename_i e; rw [e]; exact hs.symm
   · rfl
  have := hf.2 F N ρ s a w hR hh vs hc;rw [e] at this;exact this⟩
theorem FunOk.ioRow {P : Program} {f : Nat} {a : List SV} {sz : Nat} {es : List (List PV)} {x : SV} (hf : ∀ h d, h 900 = some (.row sz es) → FunOk P f (.os 900 :: a) h d x [.upd 900 (.row sz es)]) (ha : SV.closedL a = true) (hx : x.closed = true) {g : Nat} {h : Nat → Option Blk} {d : Nat} (hg : h g = some (.row sz es)) :
 FunOk P f (.os g :: a) h d x [] := by
 have h1 := (hf (fun k => h (sw1 900 g k)) d (by show h (sw1 900 g 900) = _; rw [Aij]; exact hg)).rn (π := sw1 900 g) (Up 900 g) (d' := d);simp only [SV.rnL, SV.rn, HU.rn, Blk.rn, List.map_cons, List.map_nil, Aij, Se ha, Ac5 hx] at h1;refine FunOk.quiet (g := g) (blk := .row sz es) (h1.at fun n hn => ?_) hg (by simp [A5, tn]);simp only [A5, tn, N1 ha, List.append_nil, List.mem_singleton] at hn;subst hn;simp only [Up, hg, Option.map_some, Blk.rn]
def D6 (e : Evt) (o : Obj) (f : Evt) : Obj :=
 if Ay f = Ak e then
  if f.kind = 7 then (if Ck o.last.1 o.last.2 f.rep f.seq = true then { o with last := Ak f, name := f.name } else o)
  else if f.kind = 6 then { o with seen := Cm o.seen (A9 f.dep f.rep f.seq) } else o
 else o
noncomputable def C7 (l m : List Evt) (e : Evt) : Obj := m.foldl (D6 e) ⟨Ak e, decide (e.kind = 2), Ak e, e.name, fun _ => 0, Cy l (Ak e) l⟩
theorem Jj (l m : List Evt) (e f : Evt) : C7 l (m ++ [f]) e = D6 e (C7 l m e) f := by simp [C7]
def Ge : SV := .agg [.pv (.i .i64 0), .pv (.i .u32 0), .pv (.b false), .pv (.i .i64 0), .pv (.i .u32 0), .pv (.s []), .vec 8 (vE fun _ => 0), .pv (.sl true 0 [])]
theorem Ajc (o : Obj) : Imp (.agg [.vec 2 [.i .i64 o.id.1, .i .u32 o.id.2], .pv (.b o.dir), .vec 2 [.i .i64 o.last.1, .i .u32 o.last.2], .pv (.s o.name), .vec 8 (vE o.seen), .pv (.sl false 11 (o.vers.map Bb))]) (.vec 15 (Ap o)) := Gu (by rfl) (Ep _)
noncomputable def V3 (f : Bool) (l : List Evt) (e : Evt) (k : Nat) : FS := mk [(6, .pv (.i .i64 k)), (0, .pv (.sl f 21 (l.map Bd))), (3, .p 3 0), (4, .p 4 0), (5, .p 5 0)] [(3, some (.var (.vec 21 (Bd e)))), (4, some (.var Ge)), (5, some (.var (.vec 15 (Ap (C7 l (l.take k) e)))))]
noncomputable def V2 (f : Bool) (l : List Evt) (e : Evt) (k : Nat) : FS := mk [(6, .pv (.i .i64 k)), (0, .os 900), (3, .p 3 0), (4, .p 4 0), (5, .p 5 0), (1000000, .os 900)] [(3, some (.var (.vec 21 (Bd e)))), (4, some (.var Ge)), (5, some (.var (.vec 15 (Ap (C7 l (l.take k) e))))), (900, some (.row 21 (l.map Bd)))]
set_option maxHeartbeats 8000000 in
theorem Yx {f : Bool} {l : List Evt} {rk : Evt → Nat} (e : Evt) {h d} (hE : EvsOk l rk) : FunOk Tryz.prog 60 [.pv (.sl f 21 (l.map Bd)), .vec 21 (Bd e)] h d (.vec 15 (Ap (C7 l l e))) [] := by
 refine Am Af fn60 (by simp) rfl rfl fun F => ?_;have hn := hE.len;simp (disch := omega) only [ir60, Aw, Ag, Du, Blk.ptr, go_sem];refine Aa (Ws (rk := rk) (l := l) (Ak e) rfl rfl hE) ?_;simp (disch := omega) only [go_sem];refine Az Af (V3 f l e) (fun k => k ≤ l.length) (fun k => l.length - k) 0 (by simp) (Ah ?_ ?_) fun k hk => ?_
 · simp (disch := omega) only [go_sem]
 · simp (disch := omega) only [C7, List.take_zero, List.foldl_nil, Ge, go_sem];exact Ajc ⟨Ak e, decide (e.kind = 2), Ak e, e.name, fun _ => 0, Cy l (Ak e) l⟩
 by_cases hlt : k < l.length
 · have hx : l[k]? = some l[k] := List.getElem?_eq_getElem hlt;have he : (l.map Bd)[k]? = some (Bd l[k]) := by rw [List.getElem?_map, hx]; rfl
   have ht := Cz hx;have hsn := Jj l (l.take k) e l[k];rw [← ht] at hsn;generalize l[k] = g at *;generalize hX : C7 l (l.take k) e = X at *;by_cases ho : Ay g = Ak e;rotate_left
   · have hp := Fq ho;have hs : D6 e X g = X := if_neg ho;rw [hs] at hsn;simp (disch := omega) only [V3, hX, List.length_map, he, A8, Aw, Ae, Bo, hp, go_sem];refine Ad (k + 1) _ _ rfl (by omega) (by omega) ?_ ?_
     · simp (disch := omega) only [go_sem]
     · simp (disch := omega) only [hsn, Ge, go_sem]
   have hp := Fp ho;by_cases h7 : g.kind = 7
   · by_cases hl7 : Ck X.last.1 X.last.2 g.rep g.seq = true
     · have hs : D6 e X g = { X with last := Ak g, name := g.name } := by unfold D6; rw [if_pos ho, if_pos h7, if_pos hl7]
       rw [hs] at hsn;have hsp := V8 X (Ak g);have hsp2 := V7 { X with last := Ak g } g.name;simp (disch := omega) only [V3, hX, List.length_map, he, A8, Aw, Ae, Bo, hp, Ag, h7, Hy, go_sem];refine Aa (F7 X.last.1 X.last.2 g.rep g.seq) ?_;simp (disch := omega) only [hl7, go_sem];refine Jx ?_;simp (disch := omega) only [List.length_map, he, Aw, Du, hsp, hsp2, Ag, h7, go_sem];refine Ad (k + 1) _ _ rfl (by omega) (by omega) ?_ ?_
       · simp (disch := omega) only [go_sem]
       · simp (disch := omega) only [hsn, Ge, go_sem]
     · have hs : D6 e X g = X := by unfold D6; rw [if_pos ho, if_pos h7, if_neg hl7]
       rw [hs] at hsn;have hl7' : Ck X.last.1 X.last.2 g.rep g.seq = false := by simpa using hl7
       simp (disch := omega) only [V3, hX, List.length_map, he, A8, Aw, Ae, Bo, hp, Ag, h7, Hy, go_sem];refine Aa (F7 X.last.1 X.last.2 g.rep g.seq) ?_;simp (disch := omega) only [hl7', List.length_map, he, Ag, h7, go_sem];refine Ad (k + 1) _ _ rfl (by omega) (by omega) ?_ ?_
       · simp (disch := omega) only [go_sem]
       · simp (disch := omega) only [hsn, Ge, go_sem]
   by_cases h6 : g.kind = 6
   · have hs : D6 e X g = { X with seen := Cm X.seen (A9 g.dep g.rep g.seq) } := by unfold D6; rw [if_pos ho, if_neg h7, if_pos h6]
     rw [hs] at hsn;have hsp := V6 X (Cm X.seen (A9 g.dep g.rep g.seq));have hvl := Bi (Cm X.seen (A9 g.dep g.rep g.seq));simp (disch := omega) only [V3, hX, List.length_map, he, A8, Aw, Ae, Bo, hp, Ag, h7, h6, Lx, Fb, go_sem];refine Aa (E8 _ _ _) ?_;simp (disch := omega) only [go_sem];refine Aa (Uw _ _) ?_;simp (disch := omega) only [hsp, hvl, go_sem];refine Ad (k + 1) _ _ rfl (by omega) (by omega) ?_ ?_
     · simp (disch := omega) only [go_sem]
     · simp (disch := omega) only [hsn, Ge, go_sem]
   · have hs : D6 e X g = X := by unfold D6; rw [if_pos ho, if_neg h7, if_neg h6]
     rw [hs] at hsn;simp (disch := omega) only [V3, hX, List.length_map, he, A8, Aw, Ae, Bo, hp, Ag, h7, h6, go_sem];refine Ad (k + 1) _ _ rfl (by omega) (by omega) ?_ ?_
     · simp (disch := omega) only [go_sem]
     · simp (disch := omega) only [hsn, Ge, go_sem]
 obtain rfl : k = l.length := by omega
 have htk : l.take l.length = l := List.take_length;have hol := Ep (C7 l l e);simp (disch := omega) only [V3, Ge, List.length_map, htk, Fv, hol, go_sem]
set_option maxHeartbeats 8000000 in
theorem Agb {l : List Evt} {rk : Evt → Nat} (e : Evt) {h d} (hE : EvsOk l rk) (hg : h 900 = some (.row 21 (l.map Bd))) : FunOk Tryz.prog 60 [.os 900, .vec 21 (Bd e)] h d (.vec 15 (Ap (C7 l l e))) [.upd 900 (.row 21 (l.map Bd))] := by
 refine Ia (g := 900) Af fn60 (by simp) (by simp [A5, tn]) (by simp [A5, tn]) hg rfl (by simp [Blk.ptr, SV.kill]) rfl (fun _ => rfl) fun F => ?_;obtain ⟨f, hf⟩ : ∃ f : Bool, f = false := ⟨_, rfl⟩
 have hn := hE.len;simp (disch := omega) only [ir60, Aw, Ag, Du, Blk.ptr, go_sem];refine Aa (Ws (rk := rk) (l := l) (Ak e) rfl rfl hE) ?_;simp (disch := omega) only [go_sem];refine Az Af (V2 f l e) (fun k => k ≤ l.length) (fun k => l.length - k) 0 (by simp) (Ah ?_ ?_) fun k hk => ?_
 · simp (disch := omega) only [go_sem]
 · simp (disch := omega) only [C7, List.take_zero, List.foldl_nil, Ge, go_sem];exact Ajc ⟨Ak e, decide (e.kind = 2), Ak e, e.name, fun _ => 0, Cy l (Ak e) l⟩
 by_cases hlt : k < l.length
 · have hx : l[k]? = some l[k] := List.getElem?_eq_getElem hlt;have he : (l.map Bd)[k]? = some (Bd l[k]) := by rw [List.getElem?_map, hx]; rfl
   have ht := Cz hx;have hsn := Jj l (l.take k) e l[k];rw [← ht] at hsn;generalize l[k] = g at *;generalize hX : C7 l (l.take k) e = X at *;by_cases ho : Ay g = Ak e;rotate_left
   · have hp := Fq ho;have hs : D6 e X g = X := if_neg ho;rw [hs] at hsn;simp (disch := omega) only [V2, hX, List.length_map, he, A8, Aw, Ae, Bo, hp, go_sem];refine Ad (k + 1) _ _ rfl (by omega) (by omega) ?_ ?_
     · simp (disch := omega) only [go_sem]
     · simp (disch := omega) only [hsn, Ge, go_sem]
   have hp := Fp ho;by_cases h7 : g.kind = 7
   · by_cases hl7 : Ck X.last.1 X.last.2 g.rep g.seq = true
     · have hs : D6 e X g = { X with last := Ak g, name := g.name } := by unfold D6; rw [if_pos ho, if_pos h7, if_pos hl7]
       rw [hs] at hsn;have hsp := V8 X (Ak g);have hsp2 := V7 { X with last := Ak g } g.name;simp (disch := omega) only [V2, hX, List.length_map, he, A8, Aw, Ae, Bo, hp, Ag, h7, Hy, go_sem];refine Aa (F7 X.last.1 X.last.2 g.rep g.seq) ?_;simp (disch := omega) only [hl7, go_sem];refine Jx ?_;simp (disch := omega) only [List.length_map, he, Aw, Du, hsp, hsp2, Ag, h7, go_sem];refine Ad (k + 1) _ _ rfl (by omega) (by omega) ?_ ?_
       · simp (disch := omega) only [go_sem]
       · simp (disch := omega) only [hsn, Ge, go_sem]
     · have hs : D6 e X g = X := by unfold D6; rw [if_pos ho, if_pos h7, if_neg hl7]
       rw [hs] at hsn;have hl7' : Ck X.last.1 X.last.2 g.rep g.seq = false := by simpa using hl7
       simp (disch := omega) only [V2, hX, List.length_map, he, A8, Aw, Ae, Bo, hp, Ag, h7, Hy, go_sem];refine Aa (F7 X.last.1 X.last.2 g.rep g.seq) ?_;simp (disch := omega) only [hl7', List.length_map, he, Ag, h7, go_sem];refine Ad (k + 1) _ _ rfl (by omega) (by omega) ?_ ?_
       · simp (disch := omega) only [go_sem]
       · simp (disch := omega) only [hsn, Ge, go_sem]
   by_cases h6 : g.kind = 6
   · have hs : D6 e X g = { X with seen := Cm X.seen (A9 g.dep g.rep g.seq) } := by unfold D6; rw [if_pos ho, if_neg h7, if_pos h6]
     rw [hs] at hsn;have hsp := V6 X (Cm X.seen (A9 g.dep g.rep g.seq));have hvl := Bi (Cm X.seen (A9 g.dep g.rep g.seq));simp (disch := omega) only [V2, hX, List.length_map, he, A8, Aw, Ae, Bo, hp, Ag, h7, h6, Lx, Fb, go_sem];refine Aa (E8 _ _ _) ?_;simp (disch := omega) only [go_sem];refine Aa (Uw _ _) ?_;simp (disch := omega) only [hsp, hvl, go_sem];refine Ad (k + 1) _ _ rfl (by omega) (by omega) ?_ ?_
     · simp (disch := omega) only [go_sem]
     · simp (disch := omega) only [hsn, Ge, go_sem]
   · have hs : D6 e X g = X := by unfold D6; rw [if_pos ho, if_neg h7, if_neg h6]
     rw [hs] at hsn;simp (disch := omega) only [V2, hX, List.length_map, he, A8, Aw, Ae, Bo, hp, Ag, h7, h6, go_sem];refine Ad (k + 1) _ _ rfl (by omega) (by omega) ?_ ?_
     · simp (disch := omega) only [go_sem]
     · simp (disch := omega) only [hsn, Ge, go_sem]
 obtain rfl : k = l.length := by omega
 have htk : l.take l.length = l := List.take_length;have hol := Ep (C7 l l e);simp (disch := omega) only [V2, Ge, List.length_map, htk, Fv, hol, go_sem];refine B0 ?_;simp (disch := omega) only [go_sem]
theorem Yw {l : List Evt} {rk : Evt → Nat} (e : Evt) {h d g} (hE : EvsOk l rk) (hg : h g = some (.row 21 (l.map Bd))) : FunOk Tryz.prog 60 [.os g, .vec 21 (Bd e)] h d (.vec 15 (Ap (C7 l l e))) [] :=
 FunOk.ioRow (fun h d hg => Agb e hE hg) rfl rfl hg
def Hr (l : List Obj) (o : Obj) : List Obj := l.take (Bs l o.id) ++ o :: l.drop (Bs l o.id)
noncomputable def D2 (l : List Evt) (p : St × Vc) (e : Evt) : St × Vc :=
 if e.kind = 1 ∨ e.kind = 2 then ({ p.1 with objs := Hr p.1.objs (C7 l l e) }, p.2)
 else if e.kind = 8 then (if Hs p.2 e.rep < e.seq then (Ih p.1 e, A9 p.2 e.rep e.seq) else p)
 else if e.kind = 9 then (Ok p.1 e, p.2)
 else p
noncomputable def F3 (l m : List Evt) : St × Vc := m.foldl (D2 l) (⟨Dj l, [], C2 l l, fun _ => 0, fun _ => false⟩, fun _ => 0)
noncomputable def Av (l : List Evt) : St := (F3 l l).1
theorem H4 (l m : List Evt) (e : Evt) : F3 l (m ++ [e]) = D2 l (F3 l m) e := by simp [F3]
theorem Adv {l : List Obj} {o x : Obj} : x ∈ Hr l o ↔ x = o ∨ x ∈ l := by
 unfold Hr;simp only [List.mem_append, List.mem_cons];have : x ∈ l ↔ x ∈ l.take (Bs l o.id) ∨ x ∈ l.drop (Bs l o.id) := by rw [← List.mem_append, List.take_append_drop]
 rw [this];constructor
 · rintro (h | h | h)
   · exact .inr (.inl h)
   · exact .inl h
   · exact .inr (.inr h)
 · rintro (h | h | h)
   · exact .inr (.inl h)
   · exact .inl h
   · exact .inr (.inr h)
theorem Asb (l : List Obj) (o : Obj) : (Hr l o).length = l.length + 1 := by
 unfold Hr;simp only [List.length_append, List.length_take, List.length_cons, List.length_drop];have := Lt l o.id; omega
theorem Aw8 (l : List Obj) (o : Obj) : (Hr l o).map obN = Oo (l.map obN) (obN o) := by
 unfold Hr Oo Bs;simp [List.map_take, List.map_drop]; rfl
theorem Yq {l : List Obj} {o : Obj} (hs : El l) (hn : ∀ x ∈ l, x.id ≠ o.id) : El (Hr l o) := by
 unfold El; rw [Aw8];refine Wa hs (F8.2 fun x hx => ?_);obtain ⟨u, hu, rfl⟩ := List.mem_map.1 hx;exact hn u hu
theorem Jc (l : List Evt) (e : Evt) : ∀ m : List Evt, (C7 l m e).id = Ak e := fun m => by
 unfold C7;generalize hq : (⟨Ak e, decide (e.kind = 2), Ak e, e.name, fun _ => 0, Cy l (Ak e) l⟩ : Obj) = o;have : o.id = Ak e := by rw [← hq]
 clear hq
 induction m generalizing o with
 | nil => exact this
 | cons f m ih =>
   simp only [List.foldl_cons];refine ih _ ?_;unfold D6;split
   · split
     · split <;> exact this
     · split <;> exact this
   · exact this
theorem Rl {l : List Evt} : ∀ (n : Nat) (m : List Evt), m.length = n → NodE m → El (F3 l m).1.objs ∧ (F3 l m).1.objs.length ≤ n ∧ ∀ o, o ∈ (F3 l m).1.objs ↔ ∃ e ∈ m, (e.kind = 1 ∨ e.kind = 2) ∧ o = C7 l l e
 | 0, m, h, _ => by obtain rfl := List.eq_nil_of_length_eq_zero h; exact ⟨List.Pairwise.nil, by simp [F3], by simp [F3]⟩
 | n + 1, m, h, hn => by
   have hne : m ≠ [] := fun e => by subst e; simp at h
   have e1 := (List.dropLast_concat_getLast hne).symm;have hn' : NodE m.dropLast := by unfold NodE at *; rw [List.map_dropLast]; exact hn.sublist (List.dropLast_sublist _)
   obtain ⟨h1, h2, h3⟩ := Rl (l := l) n m.dropLast (by simp [h]) hn';rw [e1] at hn ⊢;rw [H4];generalize m.getLast hne = e at *;generalize m.dropLast = m' at *;have grow : ∀ o : Obj, ((∃ f ∈ m' ++ [e], (f.kind = 1 ∨ f.kind = 2) ∧ o = C7 l l f) ↔ (∃ f ∈ m', (f.kind = 1 ∨ f.kind = 2) ∧ o = C7 l l f) ∨ ((e.kind = 1 ∨ e.kind = 2) ∧ o = C7 l l e)) := fun o => by
    simp only [List.mem_append, List.mem_singleton];constructor
    · rintro ⟨f, hf | rfl, h⟩
      · exact .inl ⟨f, hf, h⟩
      · exact .inr h
    · rintro (⟨f, hf, h⟩ | h)
      · exact ⟨f, .inl hf, h⟩
      · exact ⟨e, .inr rfl, h⟩
   by_cases h12 : e.kind = 1 ∨ e.kind = 2
   · have hS : (D2 l (F3 l m') e).1.objs = Hr (F3 l m').1.objs (C7 l l e) := by unfold D2; rw [if_pos h12]
     rw [hS];have hnew : ∀ x ∈ (F3 l m').1.objs, x.id ≠ (C7 l l e).id := fun x hx => by
      obtain ⟨f, hf, _, rfl⟩ := (h3 x).1 hx;rw [Jc, Jc];unfold NodE at hn;rw [List.map_append, List.nodup_append] at hn;exact hn.2.2 (Ak f) (List.mem_map_of_mem hf) (Ak e) (by simp)
     refine ⟨Yq h1 hnew, by rw [Asb]; omega, fun o => ?_⟩;rw [Adv, h3, grow];constructor
     · rintro (h | h)
       · exact .inr ⟨h12, h⟩
       · exact .inl h
     · rintro (h | h)
       · exact .inr h
       · exact .inl h.2
   · have hS : (D2 l (F3 l m') e).1.objs = (F3 l m').1.objs := by
      unfold D2; rw [if_neg h12];split
      · split <;> rfl
      · split <;> rfl
     rw [hS];refine ⟨h1, by omega, fun o => ?_⟩;rw [h3, grow];exact ⟨.inl, fun h => h.resolve_right fun q => h12 q.1⟩
theorem Aez (l m : List Evt) : (F3 l m).1.ents = C2 l l ∧ (F3 l m).1.known = Dj l := by
 unfold F3;generalize hq : ((⟨Dj l, [], C2 l l, fun _ => 0, fun _ => false⟩ : St), (fun _ => 0 : Vc)) = p;have : p.1.ents = C2 l l ∧ p.1.known = Dj l := by rw [← hq]; exact ⟨rfl, rfl⟩
 clear hq
 induction m generalizing p with
 | nil => exact this
 | cons f m ih =>
   simp only [List.foldl_cons];refine ih _ ?_;unfold D2;split
   · exact this
   · split
     · split
       · exact this
       · exact this
     · split <;> exact this
noncomputable def Tt (f : Bool) (l : List Evt) (k : Nat) : FS := mk [(5, .pv (.i .i64 k)), (0, .pv (.sl f 21 (l.map Bd))), (2, .p 2 0), (3, .p 3 0), (4, .p 4 0)] [(2, some (.var Bt)), (3, some (.var (.agg (A7 (F3 l (l.take k)).1)))), (4, some (.var (.vec 8 (vE (F3 l (l.take k)).2))))]
noncomputable def Ts (f : Bool) (l : List Evt) (k : Nat) : FS := mk [(5, .pv (.i .i64 k)), (0, .os 900), (2, .p 2 0), (3, .p 3 0), (4, .p 4 0), (1000000, .os 900)] [(2, some (.var Bt)), (3, some (.var (.agg (A7 (F3 l (l.take k)).1)))), (4, some (.var (.vec 8 (vE (F3 l (l.take k)).2)))), (900, some (.row 21 (l.map Bd)))]
noncomputable def Ym (f : Bool) (l : List Evt) (k : Nat) (e : Evt) (S : St) (v : Vc) (o : Obj) (j : Nat) : FS := mk [(8, .pv (.i .i64 j)), (7, .p 7 0), (6, .p 6 0), (5, .pv (.i .i64 k)), (0, .pv (.sl f 21 (l.map Bd))), (2, .p 2 0), (3, .p 3 0), (4, .p 4 0)] [(7, some (.var (.vec 15 (Ap o)))), (6, some (.var (.vec 21 (Bd e)))), (2, some (.var Bt)), (3, some (.var (.agg (A7 S)))), (4, some (.var (.vec 8 (vE v))))]
noncomputable def Yl (f : Bool) (l : List Evt) (k : Nat) (e : Evt) (S : St) (v : Vc) (o : Obj) (j : Nat) : FS := mk [(8, .pv (.i .i64 j)), (7, .p 7 0), (6, .p 6 0), (5, .pv (.i .i64 k)), (0, .os 900), (2, .p 2 0), (3, .p 3 0), (4, .p 4 0), (1000000, .os 900)] [(7, some (.var (.vec 15 (Ap o)))), (6, some (.var (.vec 21 (Bd e)))), (2, some (.var Bt)), (3, some (.var (.agg (A7 S)))), (4, some (.var (.vec 8 (vE v)))), (900, some (.row 21 (l.map Bd)))]
theorem N4 {l : List Obj} {i : Bn} {k : Nat} {x : Obj} (hk : k < Bs l i) (hx : l[k]? = some x) : H9 x.id i = true := by
 obtain ⟨y, h1, h2⟩ := Ap4 (l := l.map obN) hk;rw [U8 hx] at h1; cases h1; exact h2
theorem Qj {l : List Obj} (hs : El l) {i : Bn} {k : Nat} {x : Obj} (hk : Bs l i ≤ k) (hx : l[k]? = some x) : ¬ H9 x.id i = true := A2e (l := l.map obN) hs hk (U8 hx)
set_option maxHeartbeats 16000000 in
theorem Aq3 {f : Bool} {l : List Evt} {rk : Evt → Nat} {h d} (hE : EvsOk l rk) (hB : ∀ e ∈ l, 1 ≤ e.rep ∧ e.rep ≤ 8) : FunOk Tryz.prog 15 [.pv (.sl f 21 (l.map Bd))] h d (.agg (A7 (Av l))) [] := by
 refine Am Af fn15 (by simp) rfl rfl fun F => ?_;have hn := hE.len;have hevs : ∀ e ∈ l, ev e := fun e he => (hE.ev e he).1;simp (disch := omega) only [ir15, Blk.ptr, go_sem];refine Aa (Ai4 (l := l) rfl rfl (by omega)) ?_;simp (disch := omega) only [go_sem];refine Aa (Yy (l := l) rfl rfl (by omega) hevs) ?_;simp (disch := omega) only [go_sem];refine Az Af (Tt f l) (fun k => k ≤ l.length) (fun k => l.length - k) 0 (by simp) (Ah ?_ ?_) fun k hk => ?_
 · simp (disch := omega) only [go_sem]
 · simp (disch := omega) only [F3, List.take_zero, List.foldl_nil, Bt, go_sem];exact ⟨Ut (s := ⟨Dj l, [], C2 l l, fun _ => 0, fun _ => false⟩) (.inl rfl) (.inr rfl) trivial (.refl _), rfl⟩
 by_cases hlt : k < l.length
 · have hx : l[k]? = some l[k] := List.getElem?_eq_getElem hlt;have he : (l.map Bd)[k]? = some (Bd l[k]) := by rw [List.getElem?_map, hx]; rfl
   have ht := Cz hx;have hsn := H4 l (l.take k) l[k];have hlk : (l.take k).length ≤ 400 := by simp; omega
   have hnd := hE.nod.take (k + 1);rw [← ht] at hsn;rw [ht] at hnd;have hrep := hB _ (List.getElem_mem hlt);generalize l[k] = e at *;obtain ⟨hso, hol, hom⟩ := Rl (l := l) _ (l.take k) rfl (hE.nod.take k);have hel := Ac e;generalize hX : F3 l (l.take k) = X at *;obtain ⟨S, v⟩ := X;simp only at hso hol hom;by_cases h12 : e.kind = 1 ∨ e.kind = 2
   · have hs : D2 l (S, v) e = ({ S with objs := Hr S.objs (C7 l l e) }, v) := by unfold D2; rw [if_pos h12]
     rw [hs] at hsn;have n8 : ¬ e.kind = 8 := by omega
     have n9 : ¬ e.kind = 9 := by omega
     have hoe := Ep (C7 l l e);have hoi := Jc l e l;have hnew : ∀ x ∈ S.objs, x.id ≠ Ak e := fun x hx => by
      obtain ⟨f, hf, _, rfl⟩ := (hom x).1 hx;rw [Jc];unfold NodE at hnd;rw [List.map_append, List.nodup_append] at hnd;exact hnd.2.2 (Ak f) (List.mem_map_of_mem hf) (Ak e) (by simp)
     rcases h12 with h1 | h2
     · simp (disch := omega) only [Tt, hX, List.length_map, he, Bg, hel, Ag, h1, go_sem];refine Aa (Yx e hE) ?_;simp (disch := omega) only [hoe, A7, A3, List.length_map, Bt, go_sem];generalize hO : C7 l l e = o at *;have hp0 := Lt S.objs (Ak e);refine Az Af (Ym f l k e S v o) (fun j => Bs S.objs (Ak e) ≤ j ∧ j ≤ S.objs.length) (fun j => j) S.objs.length ⟨hp0, Nat.le_refl _⟩ (Ah ?_ ?_) fun j hj => ?_
       · simp (disch := omega) only [go_sem]
       · simp (disch := omega) only [A7, A3, Bt, go_sem]
       obtain ⟨hj1, hj2⟩ := hj;by_cases hj0 : j = 0
       · subst hj0;have hjq : Bs S.objs (Ak e) = 0 := by omega
         simp (disch := omega) only [Ym, A7, A3, Bt, go_sem];have hT : (S.objs.map Ap).take S.objs.length = S.objs.map Ap := List.take_of_length_le (by simp);have hD : ((S.objs.map Ap).drop 0).length = S.objs.length - 0 := by simp
         have hD2 : ((S.objs.map Ap).take 0).length = 0 := by rw [List.length_take, List.length_map]; omega
         have hI : (S.objs.map Ap).take 0 ++ Ap o :: S.objs.map Ap = (Hr S.objs o).map Ap := by
          unfold Hr; rw [hoi, hjq]; simp [List.map_take, List.map_drop]
         refine Kk ?_;simp (disch := omega) only [List.length_map, Fv, hoe, hT, hD, hD2, Ag, n8, n9, go_sem];refine ⟨k + 1, by omega, by omega, Ec 70 rfl (Ah ?_ ?_)⟩
         · simp (disch := omega) only [go_sem]
         · simp (disch := omega) only [hI, hsn, A7, A3, Bt, go_sem]
       · have hjx : j - 1 < S.objs.length := by omega
         have hx3 : S.objs[j - 1]? = some S.objs[j - 1] := List.getElem?_eq_getElem hjx;have he3 : (S.objs.map Ap)[j - 1]? = some (Ap S.objs[j - 1]) := by rw [List.getElem?_map, hx3]; rfl
         have hmx := List.getElem_mem hjx;have ejn : ((j : Int) - 1).toNat = j - 1 := by omega
         have hjp : (0 : Int) < j := by omega
         generalize S.objs[j - 1] = x at *;simp (disch := omega) only [Ym, A7, A3, Bt, hjp, List.length_map, ejn, he3, He, go_sem];refine Aa (F7 o.id.1 o.id.2 x.id.1 x.id.2) ?_;by_cases hlx : Ck o.id.1 o.id.2 x.id.1 x.id.2 = true
         · simp (disch := omega) only [hlx, go_sem];refine Ad (j - 1) _ _ rfl ⟨?_, by omega⟩ (by omega) ?_ ?_
           · have : ¬ Bs S.objs (Ak e) = j := fun q => Nc (N4 (i := Ak e) (by omega) hx3) (by rw [← hoi]; exact hlx);omega
           · simp (disch := omega) only [go_sem]
           · simp (disch := omega) only [A7, A3, Bt, go_sem]
         · have hlx' : Ck o.id.1 o.id.2 x.id.1 x.id.2 = false := by simpa using hlx
           have hjq : Bs S.objs (Ak e) = j := by
            have h3 : H9 x.id (Ak e) = true := by
             rw [hoi] at hlx;exact Ke hlx (fun q => hnew x hmx q.symm)
            have : ¬ Bs S.objs (Ak e) ≤ j - 1 := fun q => Qj hso q hx3 h3;omega
           simp (disch := omega) only [hlx', go_sem];have hT : (S.objs.map Ap).take S.objs.length = S.objs.map Ap := List.take_of_length_le (by simp);have hD : ((S.objs.map Ap).drop j).length = S.objs.length - j := by simp
           have hD2 : ((S.objs.map Ap).take j).length = j := by rw [List.length_take, List.length_map]; omega
           have hI : (S.objs.map Ap).take j ++ Ap o :: (S.objs.map Ap).drop j = (Hr S.objs o).map Ap := by
            unfold Hr; rw [hoi, hjq]; simp [List.map_take, List.map_drop]
           refine Kk ?_;simp (disch := omega) only [List.length_map, Fv, hoe, hT, hD, hD2, Ag, n8, n9, go_sem];refine ⟨k + 1, by omega, by omega, Ec 70 rfl (Ah ?_ ?_)⟩
           · simp (disch := omega) only [go_sem]
           · simp (disch := omega) only [hI, hsn, A7, A3, Bt, go_sem]
     · have n1 : ¬ e.kind = 1 := by omega
       simp (disch := omega) only [Tt, hX, List.length_map, he, Bg, hel, Ag, n1, h2, go_sem];refine Aa (Yx e hE) ?_;simp (disch := omega) only [hoe, A7, A3, List.length_map, Bt, go_sem];generalize hO : C7 l l e = o at *;have hp0 := Lt S.objs (Ak e);refine Az Af (Ym f l k e S v o) (fun j => Bs S.objs (Ak e) ≤ j ∧ j ≤ S.objs.length) (fun j => j) S.objs.length ⟨hp0, Nat.le_refl _⟩ (Ah ?_ ?_) fun j hj => ?_
       · simp (disch := omega) only [go_sem]
       · simp (disch := omega) only [A7, A3, Bt, go_sem]
       obtain ⟨hj1, hj2⟩ := hj;by_cases hj0 : j = 0
       · subst hj0;have hjq : Bs S.objs (Ak e) = 0 := by omega
         simp (disch := omega) only [Ym, A7, A3, Bt, go_sem];have hT : (S.objs.map Ap).take S.objs.length = S.objs.map Ap := List.take_of_length_le (by simp);have hD : ((S.objs.map Ap).drop 0).length = S.objs.length - 0 := by simp
         have hD2 : ((S.objs.map Ap).take 0).length = 0 := by rw [List.length_take, List.length_map]; omega
         have hI : (S.objs.map Ap).take 0 ++ Ap o :: S.objs.map Ap = (Hr S.objs o).map Ap := by
          unfold Hr; rw [hoi, hjq]; simp [List.map_take, List.map_drop]
         refine Kk ?_;simp (disch := omega) only [List.length_map, Fv, hoe, hT, hD, hD2, Ag, n8, n9, go_sem];refine ⟨k + 1, by omega, by omega, Ec 70 rfl (Ah ?_ ?_)⟩
         · simp (disch := omega) only [go_sem]
         · simp (disch := omega) only [hI, hsn, A7, A3, Bt, go_sem]
       · have hjx : j - 1 < S.objs.length := by omega
         have hx3 : S.objs[j - 1]? = some S.objs[j - 1] := List.getElem?_eq_getElem hjx;have he3 : (S.objs.map Ap)[j - 1]? = some (Ap S.objs[j - 1]) := by rw [List.getElem?_map, hx3]; rfl
         have hmx := List.getElem_mem hjx;have ejn : ((j : Int) - 1).toNat = j - 1 := by omega
         have hjp : (0 : Int) < j := by omega
         generalize S.objs[j - 1] = x at *;simp (disch := omega) only [Ym, A7, A3, Bt, hjp, List.length_map, ejn, he3, He, go_sem];refine Aa (F7 o.id.1 o.id.2 x.id.1 x.id.2) ?_;by_cases hlx : Ck o.id.1 o.id.2 x.id.1 x.id.2 = true
         · simp (disch := omega) only [hlx, go_sem];refine Ad (j - 1) _ _ rfl ⟨?_, by omega⟩ (by omega) ?_ ?_
           · have : ¬ Bs S.objs (Ak e) = j := fun q => Nc (N4 (i := Ak e) (by omega) hx3) (by rw [← hoi]; exact hlx);omega
           · simp (disch := omega) only [go_sem]
           · simp (disch := omega) only [A7, A3, Bt, go_sem]
         · have hlx' : Ck o.id.1 o.id.2 x.id.1 x.id.2 = false := by simpa using hlx
           have hjq : Bs S.objs (Ak e) = j := by
            have h3 : H9 x.id (Ak e) = true := by
             rw [hoi] at hlx;exact Ke hlx (fun q => hnew x hmx q.symm)
            have : ¬ Bs S.objs (Ak e) ≤ j - 1 := fun q => Qj hso q hx3 h3;omega
           simp (disch := omega) only [hlx', go_sem];have hT : (S.objs.map Ap).take S.objs.length = S.objs.map Ap := List.take_of_length_le (by simp);have hD : ((S.objs.map Ap).drop j).length = S.objs.length - j := by simp
           have hD2 : ((S.objs.map Ap).take j).length = j := by rw [List.length_take, List.length_map]; omega
           have hI : (S.objs.map Ap).take j ++ Ap o :: (S.objs.map Ap).drop j = (Hr S.objs o).map Ap := by
            unfold Hr; rw [hoi, hjq]; simp [List.map_take, List.map_drop]
           refine Kk ?_;simp (disch := omega) only [List.length_map, Fv, hoe, hT, hD, hD2, Ag, n8, n9, go_sem];refine ⟨k + 1, by omega, by omega, Ec 70 rfl (Ah ?_ ?_)⟩
           · simp (disch := omega) only [go_sem]
           · simp (disch := omega) only [hI, hsn, A7, A3, Bt, go_sem]
   have n1 : ¬ e.kind = 1 := fun h => h12 (.inl h);have n2 : ¬ e.kind = 2 := fun h => h12 (.inr h);obtain ⟨r, hr8, hre⟩ : ∃ r : Nat, r < 8 ∧ e.rep - 1 = r := ⟨(e.rep - 1).toNat, by omega, by omega⟩
   by_cases h8 : e.kind = 8
   · have n9 : ¬ e.kind = 9 := by omega
     by_cases hq : Hs v e.rep < e.seq
     · have hs : D2 l (S, v) e = (Ih S e, A9 v e.rep e.seq) := by unfold D2; rw [if_neg h12, if_pos h8]; exact if_pos hq
       rw [hs] at hsn;have hS : Ih S e = { S with wards := Dp S.wards r e.ward } := by unfold Ih; rw [hre]; rfl
       rw [hS] at hsn;have hsp := V9 S hr8 e.ward (.sl false 15 (S.objs.map Ap)) (.sl false 15 (S.ents.map Bm));have hq' : ((Hs v e.rep : Nat) : Int) < (e.seq : Int) := by omega
       have hvl := Bi (A9 v e.rep e.seq);simp (disch := omega) only [Tt, hX, List.length_map, he, Bg, hel, Ag, n1, n2, h8, Db, Fx, go_sem];refine Aa (Pl v e.rep) ?_;simp (disch := omega) only [hq', Aw, go_sem];refine Aa (E8 _ _ _) ?_;simp (disch := omega) only [hvl, Db, hre, U0, A7, A3, hsp, Ag, h8, go_sem];refine Ad (k + 1) _ _ rfl (by omega) (by omega) ?_ ?_
       · simp (disch := omega) only [go_sem]
       · simp (disch := omega) only [hsn, Bt, go_sem];exact ⟨R9 { S with wards := Dp S.wards r e.ward }, rfl⟩
     · have hs : D2 l (S, v) e = (S, v) := by unfold D2; rw [if_neg h12, if_pos h8]; exact if_neg hq
       rw [hs] at hsn;have hq' : ¬ ((Hs v e.rep : Nat) : Int) < (e.seq : Int) := by omega
       simp (disch := omega) only [Tt, hX, List.length_map, he, Bg, hel, Ag, n1, n2, h8, Db, Fx, go_sem];refine Aa (Pl v e.rep) ?_;simp (disch := omega) only [hq', Ag, h8, go_sem];refine Ad (k + 1) _ _ rfl (by omega) (by omega) ?_ ?_
       · simp (disch := omega) only [go_sem]
       · simp (disch := omega) only [hsn, Bt, A7, A3, go_sem]
   by_cases h9 : e.kind = 9
   · have hs : D2 l (S, v) e = (Ok S e, v) := by unfold D2; rw [if_neg h12, if_neg h8, if_pos h9]
     rw [hs] at hsn;have hS : Ok S e = { S with ret := Dp S.ret r true } := by unfold Ok; rw [hre]; rfl
     rw [hS] at hsn;have hsp := Aar S hr8 true (.sl false 15 (S.objs.map Ap)) (.sl false 15 (S.ents.map Bm));simp (disch := omega) only [Tt, hX, List.length_map, he, Bg, hel, Ag, n1, n2, h8, h9, Db, hre, A7, A3, hsp, go_sem];refine Ad (k + 1) _ _ rfl (by omega) (by omega) ?_ ?_
     · simp (disch := omega) only [go_sem]
     · simp (disch := omega) only [hsn, Bt, go_sem];exact R9 { S with ret := Dp S.ret r true }
   · have hs : D2 l (S, v) e = (S, v) := by unfold D2; rw [if_neg h12, if_neg h8, if_neg h9]
     rw [hs] at hsn;simp (disch := omega) only [Tt, hX, List.length_map, he, Bg, hel, Ag, n1, n2, h8, h9, go_sem];refine Ad (k + 1) _ _ rfl (by omega) (by omega) ?_ ?_
     · simp (disch := omega) only [go_sem]
     · simp (disch := omega) only [hsn, Bt, A7, A3, go_sem]
 obtain rfl : k = l.length := by omega
 have htk : l.take l.length = l := List.take_length;simp (disch := omega) only [Tt, Bt, A7, A3, List.length_map, htk, Av, go_sem]
set_option maxHeartbeats 16000000 in
theorem Alo {l : List Evt} {rk : Evt → Nat} {h d} (hE : EvsOk l rk) (hB : ∀ e ∈ l, 1 ≤ e.rep ∧ e.rep ≤ 8) (hg : h 900 = some (.row 21 (l.map Bd))) : FunOk Tryz.prog 15 [.os 900] h d (.agg (A7 (Av l))) [.upd 900 (.row 21 (l.map Bd))] := by
 refine Ia (g := 900) Af fn15 (by simp) (by simp [A5, tn]) (by simp [A5, tn]) hg rfl (by simp [Blk.ptr, SV.kill]) rfl (fun _ => rfl) fun F => ?_;obtain ⟨f, hf⟩ : ∃ f : Bool, f = false := ⟨_, rfl⟩
 have hn := hE.len;have hevs : ∀ e ∈ l, ev e := fun e he => (hE.ev e he).1;simp (disch := omega) only [ir15, Blk.ptr, go_sem];refine Aa (Ai4 (l := l) rfl rfl (by omega)) ?_;simp (disch := omega) only [go_sem];refine Aa (Yy (l := l) rfl rfl (by omega) hevs) ?_;simp (disch := omega) only [go_sem];refine Az Af (Ts f l) (fun k => k ≤ l.length) (fun k => l.length - k) 0 (by simp) (Ah ?_ ?_) fun k hk => ?_
 · simp (disch := omega) only [go_sem]
 · simp (disch := omega) only [F3, List.take_zero, List.foldl_nil, Bt, go_sem];exact ⟨Ut (s := ⟨Dj l, [], C2 l l, fun _ => 0, fun _ => false⟩) (.inl rfl) (.inr rfl) trivial (.refl _), rfl⟩
 by_cases hlt : k < l.length
 · have hx : l[k]? = some l[k] := List.getElem?_eq_getElem hlt;have he : (l.map Bd)[k]? = some (Bd l[k]) := by rw [List.getElem?_map, hx]; rfl
   have ht := Cz hx;have hsn := H4 l (l.take k) l[k];have hlk : (l.take k).length ≤ 400 := by simp; omega
   have hnd := hE.nod.take (k + 1);rw [← ht] at hsn;rw [ht] at hnd;have hrep := hB _ (List.getElem_mem hlt);generalize l[k] = e at *;obtain ⟨hso, hol, hom⟩ := Rl (l := l) _ (l.take k) rfl (hE.nod.take k);have hel := Ac e;generalize hX : F3 l (l.take k) = X at *;obtain ⟨S, v⟩ := X;simp only at hso hol hom;by_cases h12 : e.kind = 1 ∨ e.kind = 2
   · have hs : D2 l (S, v) e = ({ S with objs := Hr S.objs (C7 l l e) }, v) := by unfold D2; rw [if_pos h12]
     rw [hs] at hsn;have n8 : ¬ e.kind = 8 := by omega
     have n9 : ¬ e.kind = 9 := by omega
     have hoe := Ep (C7 l l e);have hoi := Jc l e l;have hnew : ∀ x ∈ S.objs, x.id ≠ Ak e := fun x hx => by
      obtain ⟨f, hf, _, rfl⟩ := (hom x).1 hx;rw [Jc];unfold NodE at hnd;rw [List.map_append, List.nodup_append] at hnd;exact hnd.2.2 (Ak f) (List.mem_map_of_mem hf) (Ak e) (by simp)
     rcases h12 with h1 | h2
     · simp (disch := omega) only [Ts, hX, List.length_map, he, Bg, hel, Ag, h1, go_sem];refine Aa (Yw e hE rfl) ?_;simp (disch := omega) only [hoe, A7, A3, List.length_map, Bt, go_sem];generalize hO : C7 l l e = o at *;have hp0 := Lt S.objs (Ak e);refine Az Af (Yl f l k e S v o) (fun j => Bs S.objs (Ak e) ≤ j ∧ j ≤ S.objs.length) (fun j => j) S.objs.length ⟨hp0, Nat.le_refl _⟩ (Ah ?_ ?_) fun j hj => ?_
       · simp (disch := omega) only [go_sem]
       · simp (disch := omega) only [A7, A3, Bt, go_sem]
       obtain ⟨hj1, hj2⟩ := hj;by_cases hj0 : j = 0
       · subst hj0;have hjq : Bs S.objs (Ak e) = 0 := by omega
         simp (disch := omega) only [Yl, A7, A3, Bt, go_sem];have hT : (S.objs.map Ap).take S.objs.length = S.objs.map Ap := List.take_of_length_le (by simp);have hD : ((S.objs.map Ap).drop 0).length = S.objs.length - 0 := by simp
         have hD2 : ((S.objs.map Ap).take 0).length = 0 := by rw [List.length_take, List.length_map]; omega
         have hI : (S.objs.map Ap).take 0 ++ Ap o :: S.objs.map Ap = (Hr S.objs o).map Ap := by
          unfold Hr; rw [hoi, hjq]; simp [List.map_take, List.map_drop]
         refine Kk ?_;simp (disch := omega) only [List.length_map, Fv, hoe, hT, hD, hD2, Ag, n8, n9, go_sem];refine ⟨k + 1, by omega, by omega, Ec 70 rfl (Ah ?_ ?_)⟩
         · simp (disch := omega) only [go_sem]
         · simp (disch := omega) only [hI, hsn, A7, A3, Bt, go_sem]
       · have hjx : j - 1 < S.objs.length := by omega
         have hx3 : S.objs[j - 1]? = some S.objs[j - 1] := List.getElem?_eq_getElem hjx;have he3 : (S.objs.map Ap)[j - 1]? = some (Ap S.objs[j - 1]) := by rw [List.getElem?_map, hx3]; rfl
         have hmx := List.getElem_mem hjx;have ejn : ((j : Int) - 1).toNat = j - 1 := by omega
         have hjp : (0 : Int) < j := by omega
         generalize S.objs[j - 1] = x at *;simp (disch := omega) only [Yl, A7, A3, Bt, hjp, List.length_map, ejn, he3, He, go_sem];refine Aa (F7 o.id.1 o.id.2 x.id.1 x.id.2) ?_;by_cases hlx : Ck o.id.1 o.id.2 x.id.1 x.id.2 = true
         · simp (disch := omega) only [hlx, go_sem];refine Ad (j - 1) _ _ rfl ⟨?_, by omega⟩ (by omega) ?_ ?_
           · have : ¬ Bs S.objs (Ak e) = j := fun q => Nc (N4 (i := Ak e) (by omega) hx3) (by rw [← hoi]; exact hlx);omega
           · simp (disch := omega) only [go_sem]
           · simp (disch := omega) only [A7, A3, Bt, go_sem]
         · have hlx' : Ck o.id.1 o.id.2 x.id.1 x.id.2 = false := by simpa using hlx
           have hjq : Bs S.objs (Ak e) = j := by
            have h3 : H9 x.id (Ak e) = true := by
             rw [hoi] at hlx;exact Ke hlx (fun q => hnew x hmx q.symm)
            have : ¬ Bs S.objs (Ak e) ≤ j - 1 := fun q => Qj hso q hx3 h3;omega
           simp (disch := omega) only [hlx', go_sem];have hT : (S.objs.map Ap).take S.objs.length = S.objs.map Ap := List.take_of_length_le (by simp);have hD : ((S.objs.map Ap).drop j).length = S.objs.length - j := by simp
           have hD2 : ((S.objs.map Ap).take j).length = j := by rw [List.length_take, List.length_map]; omega
           have hI : (S.objs.map Ap).take j ++ Ap o :: (S.objs.map Ap).drop j = (Hr S.objs o).map Ap := by
            unfold Hr; rw [hoi, hjq]; simp [List.map_take, List.map_drop]
           refine Kk ?_;simp (disch := omega) only [List.length_map, Fv, hoe, hT, hD, hD2, Ag, n8, n9, go_sem];refine ⟨k + 1, by omega, by omega, Ec 70 rfl (Ah ?_ ?_)⟩
           · simp (disch := omega) only [go_sem]
           · simp (disch := omega) only [hI, hsn, A7, A3, Bt, go_sem]
     · have n1 : ¬ e.kind = 1 := by omega
       simp (disch := omega) only [Ts, hX, List.length_map, he, Bg, hel, Ag, n1, h2, go_sem];refine Aa (Yw e hE rfl) ?_;simp (disch := omega) only [hoe, A7, A3, List.length_map, Bt, go_sem];generalize hO : C7 l l e = o at *;have hp0 := Lt S.objs (Ak e);refine Az Af (Yl f l k e S v o) (fun j => Bs S.objs (Ak e) ≤ j ∧ j ≤ S.objs.length) (fun j => j) S.objs.length ⟨hp0, Nat.le_refl _⟩ (Ah ?_ ?_) fun j hj => ?_
       · simp (disch := omega) only [go_sem]
       · simp (disch := omega) only [A7, A3, Bt, go_sem]
       obtain ⟨hj1, hj2⟩ := hj;by_cases hj0 : j = 0
       · subst hj0;have hjq : Bs S.objs (Ak e) = 0 := by omega
         simp (disch := omega) only [Yl, A7, A3, Bt, go_sem];have hT : (S.objs.map Ap).take S.objs.length = S.objs.map Ap := List.take_of_length_le (by simp);have hD : ((S.objs.map Ap).drop 0).length = S.objs.length - 0 := by simp
         have hD2 : ((S.objs.map Ap).take 0).length = 0 := by rw [List.length_take, List.length_map]; omega
         have hI : (S.objs.map Ap).take 0 ++ Ap o :: S.objs.map Ap = (Hr S.objs o).map Ap := by
          unfold Hr; rw [hoi, hjq]; simp [List.map_take, List.map_drop]
         refine Kk ?_;simp (disch := omega) only [List.length_map, Fv, hoe, hT, hD, hD2, Ag, n8, n9, go_sem];refine ⟨k + 1, by omega, by omega, Ec 70 rfl (Ah ?_ ?_)⟩
         · simp (disch := omega) only [go_sem]
         · simp (disch := omega) only [hI, hsn, A7, A3, Bt, go_sem]
       · have hjx : j - 1 < S.objs.length := by omega
         have hx3 : S.objs[j - 1]? = some S.objs[j - 1] := List.getElem?_eq_getElem hjx;have he3 : (S.objs.map Ap)[j - 1]? = some (Ap S.objs[j - 1]) := by rw [List.getElem?_map, hx3]; rfl
         have hmx := List.getElem_mem hjx;have ejn : ((j : Int) - 1).toNat = j - 1 := by omega
         have hjp : (0 : Int) < j := by omega
         generalize S.objs[j - 1] = x at *;simp (disch := omega) only [Yl, A7, A3, Bt, hjp, List.length_map, ejn, he3, He, go_sem];refine Aa (F7 o.id.1 o.id.2 x.id.1 x.id.2) ?_;by_cases hlx : Ck o.id.1 o.id.2 x.id.1 x.id.2 = true
         · simp (disch := omega) only [hlx, go_sem];refine Ad (j - 1) _ _ rfl ⟨?_, by omega⟩ (by omega) ?_ ?_
           · have : ¬ Bs S.objs (Ak e) = j := fun q => Nc (N4 (i := Ak e) (by omega) hx3) (by rw [← hoi]; exact hlx);omega
           · simp (disch := omega) only [go_sem]
           · simp (disch := omega) only [A7, A3, Bt, go_sem]
         · have hlx' : Ck o.id.1 o.id.2 x.id.1 x.id.2 = false := by simpa using hlx
           have hjq : Bs S.objs (Ak e) = j := by
            have h3 : H9 x.id (Ak e) = true := by
             rw [hoi] at hlx;exact Ke hlx (fun q => hnew x hmx q.symm)
            have : ¬ Bs S.objs (Ak e) ≤ j - 1 := fun q => Qj hso q hx3 h3;omega
           simp (disch := omega) only [hlx', go_sem];have hT : (S.objs.map Ap).take S.objs.length = S.objs.map Ap := List.take_of_length_le (by simp);have hD : ((S.objs.map Ap).drop j).length = S.objs.length - j := by simp
           have hD2 : ((S.objs.map Ap).take j).length = j := by rw [List.length_take, List.length_map]; omega
           have hI : (S.objs.map Ap).take j ++ Ap o :: (S.objs.map Ap).drop j = (Hr S.objs o).map Ap := by
            unfold Hr; rw [hoi, hjq]; simp [List.map_take, List.map_drop]
           refine Kk ?_;simp (disch := omega) only [List.length_map, Fv, hoe, hT, hD, hD2, Ag, n8, n9, go_sem];refine ⟨k + 1, by omega, by omega, Ec 70 rfl (Ah ?_ ?_)⟩
           · simp (disch := omega) only [go_sem]
           · simp (disch := omega) only [hI, hsn, A7, A3, Bt, go_sem]
   have n1 : ¬ e.kind = 1 := fun h => h12 (.inl h);have n2 : ¬ e.kind = 2 := fun h => h12 (.inr h);obtain ⟨r, hr8, hre⟩ : ∃ r : Nat, r < 8 ∧ e.rep - 1 = r := ⟨(e.rep - 1).toNat, by omega, by omega⟩
   by_cases h8 : e.kind = 8
   · have n9 : ¬ e.kind = 9 := by omega
     by_cases hq : Hs v e.rep < e.seq
     · have hs : D2 l (S, v) e = (Ih S e, A9 v e.rep e.seq) := by unfold D2; rw [if_neg h12, if_pos h8]; exact if_pos hq
       rw [hs] at hsn;have hS : Ih S e = { S with wards := Dp S.wards r e.ward } := by unfold Ih; rw [hre]; rfl
       rw [hS] at hsn;have hsp := V9 S hr8 e.ward (.sl false 15 (S.objs.map Ap)) (.sl false 15 (S.ents.map Bm));have hq' : ((Hs v e.rep : Nat) : Int) < (e.seq : Int) := by omega
       have hvl := Bi (A9 v e.rep e.seq);simp (disch := omega) only [Ts, hX, List.length_map, he, Bg, hel, Ag, n1, n2, h8, Db, Fx, go_sem];refine Aa (Pl v e.rep) ?_;simp (disch := omega) only [hq', Aw, go_sem];refine Aa (E8 _ _ _) ?_;simp (disch := omega) only [hvl, Db, hre, U0, A7, A3, hsp, Ag, h8, go_sem];refine Ad (k + 1) _ _ rfl (by omega) (by omega) ?_ ?_
       · simp (disch := omega) only [go_sem]
       · simp (disch := omega) only [hsn, Bt, go_sem];exact ⟨R9 { S with wards := Dp S.wards r e.ward }, rfl⟩
     · have hs : D2 l (S, v) e = (S, v) := by unfold D2; rw [if_neg h12, if_pos h8]; exact if_neg hq
       rw [hs] at hsn;have hq' : ¬ ((Hs v e.rep : Nat) : Int) < (e.seq : Int) := by omega
       simp (disch := omega) only [Ts, hX, List.length_map, he, Bg, hel, Ag, n1, n2, h8, Db, Fx, go_sem];refine Aa (Pl v e.rep) ?_;simp (disch := omega) only [hq', Ag, h8, go_sem];refine Ad (k + 1) _ _ rfl (by omega) (by omega) ?_ ?_
       · simp (disch := omega) only [go_sem]
       · simp (disch := omega) only [hsn, Bt, A7, A3, go_sem]
   by_cases h9 : e.kind = 9
   · have hs : D2 l (S, v) e = (Ok S e, v) := by unfold D2; rw [if_neg h12, if_neg h8, if_pos h9]
     rw [hs] at hsn;have hS : Ok S e = { S with ret := Dp S.ret r true } := by unfold Ok; rw [hre]; rfl
     rw [hS] at hsn;have hsp := Aar S hr8 true (.sl false 15 (S.objs.map Ap)) (.sl false 15 (S.ents.map Bm));simp (disch := omega) only [Ts, hX, List.length_map, he, Bg, hel, Ag, n1, n2, h8, h9, Db, hre, A7, A3, hsp, go_sem];refine Ad (k + 1) _ _ rfl (by omega) (by omega) ?_ ?_
     · simp (disch := omega) only [go_sem]
     · simp (disch := omega) only [hsn, Bt, go_sem];exact R9 { S with ret := Dp S.ret r true }
   · have hs : D2 l (S, v) e = (S, v) := by unfold D2; rw [if_neg h12, if_neg h8, if_neg h9]
     rw [hs] at hsn;simp (disch := omega) only [Ts, hX, List.length_map, he, Bg, hel, Ag, n1, n2, h8, h9, go_sem];refine Ad (k + 1) _ _ rfl (by omega) (by omega) ?_ ?_
     · simp (disch := omega) only [go_sem]
     · simp (disch := omega) only [hsn, Bt, A7, A3, go_sem]
 obtain rfl : k = l.length := by omega
 have htk : l.take l.length = l := List.take_length;simp (disch := omega) only [Ts, Bt, A7, A3, List.length_map, htk, Av, go_sem];refine B0 ?_;simp (disch := omega) only [go_sem]
theorem Wx {l : List Evt} {rk : Evt → Nat} {h d g} (hE : EvsOk l rk) (hB : ∀ e ∈ l, 1 ≤ e.rep ∧ e.rep ≤ 8) (hg : h g = some (.row 21 (l.map Bd))) : FunOk Tryz.prog 15 [.os g] h d (.agg (A7 (Av l))) [] :=
 FunOk.ioRow (fun h d hg => Alo hE hB hg) rfl rfl hg
theorem Agm {l : List Obj} (hs : El l) (i : Bn) : Fa l i = l.find? fun o => decide (o.id = i) := by
 cases h : Fa l i with
 | some o =>
   obtain ⟨h1, h2⟩ := Gz h;symm;obtain ⟨hlt, hg⟩ := List.getElem?_eq_some_iff.1 h1;rw [List.find?_eq_some_iff_getElem];refine ⟨by simpa using h2, Bs l i, hlt, hg, fun j hj => ?_⟩;have := N4 hj (List.getElem?_eq_getElem (by omega));simp only [Bool.not_eq_true', decide_eq_false_iff_not];intro q;rw [q] at this;exact Ga this
 | none =>
   symm;rw [List.find?_eq_none];intro x hx q;have q : x.id = i := by simpa using q
   obtain ⟨j, hj⟩ := List.mem_iff_getElem?.1 hx;have h1 : ¬ j < Bs l i := fun hq => by
    have := N4 hq hj;rw [q] at this; exact Ga this
   by_cases e : j = Bs l i
   · unfold Fa at h;rw [← e, hj] at h;simp only at h;rw [if_pos q] at h; cases h
   · have hlt := (List.getElem?_eq_some_iff.1 hj).1;have hp : Bs l i < l.length := by omega
     have hy : l[Bs l i]? = some l[Bs l i] := List.getElem?_eq_getElem hp;have h3 := Kz hs hy hj (by omega);rw [q] at h3;exact Qj hs (Nat.le_refl _) hy h3
def Aai (s : St) (i : Bn) (z : SV) (k : Nat) : FS := mk [(6, .pv (.i .i64 k)), (2, .p 2 0), (3, .p 3 0), (4, .p 4 0)] [(2, some (.var (.agg (A7 s)))), (3, some (.var (.vec 2 [.i .i64 i.1, .i .u32 i.2]))), (4, some (.var z))]
def Alr : Obj := ⟨(0, 0), false, (0, 0), [], fun _ => 0, []⟩
theorem Ame : Imp (.agg [.pv (.i .i64 0), .pv (.i .u32 0), .pv (.b false), .pv (.i .i64 0), .pv (.i .u32 0), .pv (.s []), .vec 8 (vE fun _ => 0), .pv (.sl true 0 [])]) (.vec 15 (Ap Alr)) :=
 fun V ρ v h => Amf (Ajb Alr (.inl rfl)) V ρ v (Gu (n := 15) (cs := E9 true 0 Alr) (by rfl) (Ee _ _ _) V ρ v h)
set_option maxHeartbeats 1000000 in
theorem Ai1 {s : St} (i : Bn) (hs : El s.objs) {h d} (hn : s.objs.length ≤ 1000) : FunOk Tryz.prog 92 [.agg (A7 s), .vec 2 [.i .i64 i.1, .i .u32 i.2]] h d (.tup [.vec 15 (Ap ((Fa s.objs i).getD Alr)), .pv (.b (Fa s.objs i).isSome)]) [] := by
 refine Ta Af fn92 (by simp) rfl rfl fun F => ?_;simp (disch := omega) only [ir92, A7, A3, go_sem];refine Az Af (Aai s i Ge) (fun k => k ≤ s.objs.length ∧ ∀ j x, j < k → s.objs[j]? = some x → x.id ≠ i) (fun k => s.objs.length - k) 0 ⟨by simp, fun j x hj => absurd hj (Nat.not_lt_zero j)⟩ (Ah ?_ ?_) fun k hk => ?_
 · simp (disch := omega) only [go_sem]
 · simp (disch := omega) only [Ge, A7, A3, go_sem]
 obtain ⟨hk1, hk2⟩ := hk;rw [Agm hs];by_cases hlt : k < s.objs.length
 · have hx : s.objs[k]? = some s.objs[k] := List.getElem?_eq_getElem hlt;have he : (s.objs.map Ap)[k]? = some (Ap s.objs[k]) := by rw [List.getElem?_map, hx]; rfl
   have hgk : s.objs[k] = s.objs[k] := rfl;generalize hO : s.objs[k] = o at *;have hol := Ep o;by_cases hb : o.id = i
   · have hp := Fp hb;have hf : s.objs.find? (fun o => decide (o.id = i)) = some o := by
      rw [List.find?_eq_some_iff_getElem];refine ⟨by simpa using hb, k, hlt, hO, fun j hj => ?_⟩;simpa using hk2 j _ hj (List.getElem?_eq_getElem (by omega))
     rw [hf];simp (disch := omega) only [Aai, Ge, A7, A3, List.length_map, he, He, Ae, Bo, hp, Fv, hol, go_sem];refine B0 ?_;simp (disch := omega) only [go_sem];exact Imp.refl _
   · have hp := Fq hb;simp (disch := omega) only [Aai, Ge, A7, A3, List.length_map, he, He, Ae, Bo, hp, go_sem];refine Ad (k + 1) _ _ rfl ⟨by omega, fun j x hj hjx => ?_⟩ (by omega) ?_ ?_
     · by_cases ej : j = k
       · subst ej; rw [hx] at hjx; cases hjx; exact hb
       · exact hk2 j x (by omega) hjx
     · simp (disch := omega) only [go_sem]
     · simp (disch := omega) only [Ge, A7, A3, go_sem]
 · obtain rfl : k = s.objs.length := by omega
   have hf : s.objs.find? (fun o => decide (o.id = i)) = none := by
    rw [List.find?_eq_none];intro x hx;obtain ⟨j, hj⟩ := List.mem_iff_getElem?.1 hx;simpa using hk2 j x (List.getElem?_eq_some_iff.1 hj).1 hj
   rw [hf];simp (disch := omega) only [Aai, Ge, A7, A3, List.length_map, go_sem];refine B0 ?_;simp (disch := omega) only [go_sem];exact Un Ame
theorem Aw2 {s : St} (i : Bn) (hs : El s.objs) {h d} (hn : s.objs.length ≤ 1000) : FunOk Tryz.prog 91 [.agg (A7 s), .vec 2 [.i .i64 i.1, .i .u32 i.2]] h d (.pv (.i .i64 (Ku s.objs i))) [] := by
 refine Am Af fn91 (by simp) rfl rfl fun F => ?_;have hd := Ahh (l := s.objs) i;have ho := Ai1 (s := s) i hs hn (h := fun _ => none) (d := 0);rw [show A7 s = [.vec 8 (vE s.known), .pv (.sl false 15 (s.objs.map Ap)), .pv (.sl false 15 (s.ents.map Bm)), .vec 8 (iE s.wards), .vec 8 (wE s.ret)] from rfl] at ho;simp (disch := omega) only [ir91, A7, A3, go_sem];refine Aa (Aqa _ _) ?_;by_cases h0 : i = (0, 0)
 · have hz : Bz i.1 i.2 = true := decide_eq_true (Acb h0);rw [if_pos h0] at hd;simp (disch := omega) only [hz, hd, go_sem]
 · have hz : Bz i.1 i.2 = false := decide_eq_false fun e => h0 (Prod.ext e.1 e.2);rw [if_neg h0] at hd;simp (disch := omega) only [hz, go_sem];refine Aa (ho.at (by simp [A5, tn])) ?_;cases hA : Fa s.objs i with
   | none =>
     rw [hA] at hd;simp only at hd;have hol := Ep Alr;simp (disch := omega) only [Option.isSome_none, hol, hd, go_sem]
   | some o =>
     rw [hA] at hd;simp only at hd;have hol := Ep o;by_cases hdd : o.dir = true
     · rw [if_pos hdd] at hd;simp (disch := omega) only [Option.isSome_some, Option.getD_some, hol, Es, hdd, hd, go_sem]
     · have hdd' : o.dir = false := by simpa using hdd
       rw [if_neg hdd] at hd;simp (disch := omega) only [Option.isSome_some, Option.getD_some, hol, Es, hdd', hd, go_sem]
theorem Aev {e : Evt} (h : Bk e = true) (hk : e.kind = 3 ∨ e.kind = 4 ∨ e.kind = 5) : ∀ b ∈ e.base.l, Bl e.dep b.1 b.2 = true := by
 unfold Bk at h;simp only [Bool.and_eq_true, decide_eq_true_eq] at h;have hK := h.2.2.2;have key : ∀ m, Ef e.base.l m e.dep = true → ∀ b ∈ e.base.l, Bl e.dep b.1 b.2 = true := fun m hm b hb => by
  unfold Ef G6 at hm;simp only [Bool.and_eq_true, decide_eq_true_eq] at hm;obtain ⟨j, hj⟩ := List.mem_iff_getElem?.1 hb;obtain ⟨hlt, hg⟩ := List.getElem?_eq_some_iff.1 hj;have := (hm.2 j hlt).1;rw [hg] at this; exact this
 rcases hk with h3 | h3 | h3
 · rw [Kc h3] at hK;simp only [Bool.and_eq_true] at hK;exact key _ hK.2.1
 · rw [Ob h3] at hK;simp only [Bool.and_eq_true] at hK;exact key _ hK.2.1
 · rw [Oa h3] at hK;simp only [Bool.and_eq_true] at hK;exact key _ hK.2.1
theorem Aeh {a : Vc} {r : Int} {q : Nat} (h : Bl a r q = true) : 1 ≤ q ∧ 1 ≤ r ∧ r ≤ 8 ∧ q ≤ a (r - 1).toNat := by
 unfold Bl Hs at h;simp only [decide_eq_true_eq] at h;by_cases hr : 1 ≤ r ∧ r ≤ 8
 · rw [if_pos hr] at h; exact ⟨h.1, hr.1, hr.2, h.2⟩
 · rw [if_neg hr] at h; omega
def Aox (s : St) (e : Evt) (o : Obj) (k : Nat) : FS := mk [(7, .pv (.i .i64 k)), (2, .p 2 0), (3, .p 3 0), (5, .p 5 0), (4, .pv (.i .i64 0))] [(2, some (.var (.agg (A7 s)))), (3, some (.var (.vec 21 (Bd e)))), (5, some (.var (.vec 15 (Ap o))))]
set_option maxHeartbeats 8000000 in
theorem A0e {s : St} {e : Evt} (hs : StIn s) (he : ev e) (hdep : ∀ i, i < 8 → e.dep i < 4294967296) {h d} : FunOk Tryz.prog 50 [.agg (A7 s), .vec 21 (Bd e)] h d (.pv (.i .i64 (Ew s e))) [] := by
 refine Am Af fn50 (by simp) rfl rfl fun F => ?_;have a1 := hs.fine.on;have hS : A7 s = [.vec 8 (vE s.known), .pv (.sl false 15 (s.objs.map Ap)), .pv (.sl false 15 (s.ents.map Bm)), .vec 8 (iE s.wards), .vec 8 (wE s.ret)] := rfl;have hO := Ai1 (s := s) (Ay e) hs.so (by omega) (h := fun _ => none) (d := 0);have hD := Aw2 (s := s) (Hk e) hs.so (by omega) (h := fun _ => none) (d := 0);rw [hS] at hO hD;simp (disch := omega) only [ir50, A7, A3, Bg, go_sem];refine Aa (Aq1 e he hdep) ?_;by_cases hc' : Bk e = false
 · have hw : Ew s e = 7 := if_pos hc';simp (disch := omega) only [hc', hw, go_sem]
 have hc : Bk e = true := by simpa using hc'
 have hb := Cx hc;obtain ⟨b1, b2, b3, b4, b5, b6, b7⟩ := hb;simp (disch := omega) only [hc, Aw, Fb, go_sem];refine Aa (Pk _ _ _) ?_;by_cases h1 : Bl s.known e.rep e.seq = true
 · have hw : Ew s e = 11 := by unfold Ew; rw [if_neg hc', if_pos h1]
   simp (disch := omega) only [h1, hw, go_sem]
 have h1' : Bl s.known e.rep e.seq = false := by simpa using h1
 simp (disch := omega) only [h1', Fb, go_sem];refine Aa (A2q _ _) ?_;by_cases h2 : Um e.dep s.known;rotate_left
 · have hw : Ew s e = 10 := by unfold Ew; rw [if_neg hc', if_neg h1, if_pos h2]
   have h2' := decide_eq_false h2;simp (disch := omega) only [h2', hw, go_sem]
 have h2' := decide_eq_true h2;obtain ⟨k, hk8, hre⟩ : ∃ k : Nat, k < 8 ∧ e.rep - 1 = k := ⟨(e.rep - 1).toNat, by omega, by omega⟩
 have hld := fun (a b : PV) (w : Nat → Int) (r : Nat → Bool) (K : KK) => Ajk a b w r hk8 K;simp (disch := omega) only [h2', Db, hre, hld, go_sem];by_cases h3 : s.ret k = true
 · have hw : Ew s e = 28 := by unfold Ew; rw [if_neg hc', if_neg h1, if_neg (by simpa using h2), if_pos (by rw [hre]; exact h3)]
   simp (disch := omega) only [h3, hw, go_sem]
 have h3' : s.ret k = false := by simpa using h3
 have hw : Ew s e = Ud s e := by unfold Ew; rw [if_neg hc', if_neg h1, if_neg (by simpa using h2), if_neg (by rw [hre]; exact h3)]
 unfold Ud at hw;by_cases h89 : e.kind = 8 ∨ e.kind = 9
 · rw [if_pos h89] at hw;rcases h89 with h8 | h9
   · simp (disch := omega) only [h3', Ag, h8, hw, go_sem]
   · have n8 : ¬ e.kind = 8 := by omega
     simp (disch := omega) only [h3', Ag, n8, h9, hw, go_sem]
 rw [if_neg h89] at hw;have n8 : ¬ e.kind = 8 := fun q => h89 (.inl q);have n9 : ¬ e.kind = 9 := fun q => h89 (.inr q);by_cases h12 : e.kind = 1 ∨ e.kind = 2
 · rw [if_pos h12] at hw;rcases h12 with h1k | h2k
   · simp (disch := omega) only [h3', Ag, n8, n9, h1k, Dh, go_sem];refine Aa (hD.at (by simp [A5, tn])) ?_;simp (disch := omega) only [hw, go_sem]
   · have n1 : ¬ e.kind = 1 := by omega
     simp (disch := omega) only [h3', Ag, n8, n9, n1, h2k, Dh, go_sem];refine Aa (hD.at (by simp [A5, tn])) ?_;simp (disch := omega) only [hw, go_sem]
 rw [if_neg h12] at hw;have n1 : ¬ e.kind = 1 := fun q => h12 (.inl q);have n2 : ¬ e.kind = 2 := fun q => h12 (.inr q);simp (disch := omega) only [h3', Ag, n8, n9, n1, n2, A8, go_sem];refine Aa (hO.at (by simp [A5, tn])) ?_;cases hA : Fa s.objs (Ay e) with
 | none =>
   rw [hA] at hw;simp only at hw;have hol := Ep Alr;simp (disch := omega) only [Option.isSome_none, Option.getD_none, hol, hw, go_sem]
 | some o =>
   rw [hA] at hw;simp only at hw;have hol := Ep o;by_cases h7 : e.kind = 7
   · rw [if_pos h7] at hw;simp (disch := omega) only [Option.isSome_some, Option.getD_some, hol, Ag, h7, Dh, go_sem];refine Aa (hD.at (by simp [A5, tn])) ?_;simp (disch := omega) only [hw, go_sem]
   rw [if_neg h7] at hw;by_cases h6 : e.kind = 6
   · rw [if_pos h6] at hw;simp (disch := omega) only [Option.isSome_some, Option.getD_some, hol, Ag, h7, h6, hw, go_sem]
   rw [if_neg h6] at hw;by_cases hd : o.dir = true
   · rw [if_pos hd] at hw;simp (disch := omega) only [Option.isSome_some, Option.getD_some, hol, Ag, h7, h6, Es, hd, hw, go_sem]
   rw [if_neg hd] at hw;have hd' : o.dir = false := by simpa using hd
   have hk345 : e.kind = 3 ∨ e.kind = 4 ∨ e.kind = 5 := by omega
   have hb1 := Aev hc hk345;have hbl := O4 hc hk345;have hom := List.mem_of_getElem? (Gz hA).1;have hov := hs.fine.ov o hom;have hpv : e.base.pv = .sl e.base.f e.base.z (e.base.l.map Eb) := rfl;simp (disch := omega) only [Option.isSome_some, Option.getD_some, hol, Ag, h7, h6, Es, hd', go_sem];refine Az Af (Aox s e o) (fun k => k ≤ e.base.l.length ∧ ∀ j b, j < k → e.base.l[j]? = some b → Bp o.vers b.1 b.2 ≠ none) (fun k => e.base.l.length - k) 0 ⟨by simp, fun j b hj => absurd hj (Nat.not_lt_zero j)⟩ (Ah ?_ ?_) fun k hk => ?_
   · simp (disch := omega) only [go_sem]
   · simp (disch := omega) only [A7, A3, go_sem]
   obtain ⟨hk1, hk2⟩ := hk;by_cases hlt : k < e.base.l.length
   · have hx : e.base.l[k]? = some e.base.l[k] := List.getElem?_eq_getElem hlt;have hel : (e.base.l.map Eb)[k]? = some (Eb e.base.l[k]) := by rw [List.getElem?_map, hx]; rfl
     have hz2 : e.base.z = 2 := he.2.1.resolve_left fun q => by rw [q] at hlt; simp at hlt
     have hbm := List.getElem_mem hlt;have hbz := Aeh (hb1 _ hbm);generalize e.base.l[k] = b at *;have hnz : ¬ (b.1 = 0 ∧ b.2 = 0) := by omega
     simp (disch := omega) only [Aox, A7, A3, Fi, hpv, List.length_map, hz2, hel, Ej, E2, go_sem];refine Aa (Ai7 (l := o.vers) b.1 b.2 rfl rfl (by omega)) ?_;cases hf : Bp o.vers b.1 b.2 with
     | none =>
       have hm : Dg o.vers e.base.l := ⟨b, hbm, hf⟩
       rw [if_pos hm] at hw;have hdv := Re hnz hf;simp (disch := omega) only [hdv, hw, go_sem]
     | some v =>
       have hdv := Ma hnz hf;simp (disch := omega) only [hdv, go_sem];refine Ad (k + 1) _ _ rfl ⟨by omega, fun j c hj hjc => ?_⟩ (by omega) ?_ ?_
       · by_cases ej : j = k
         · subst ej; rw [hx] at hjc; cases hjc; rw [hf]; simp
         · exact hk2 j c (by omega) hjc
       · simp (disch := omega) only [go_sem]
       · simp (disch := omega) only [A7, A3, go_sem]
   · obtain rfl : k = e.base.l.length := by omega
     have hm : ¬ Dg o.vers e.base.l := fun ⟨b, hbm, hf⟩ => by
      obtain ⟨j, hj⟩ := List.mem_iff_getElem?.1 hbm;exact hk2 j b (List.getElem?_eq_some_iff.1 hj).1 hj hf
     rw [if_neg hm] at hw;simp (disch := omega) only [Aox, A7, A3, Fi, hpv, List.length_map, hw, go_sem]
def vid (v : Ver) : Bn := (v.rep, v.seq)
def Oz (bs : List Bn) (r : Int) (q : Nat) (x : Ver) : Ver := if (x.rep, x.seq) ∈ bs then Er x r q else x
theorem Abd (l : List Ver) (bs : List Bn) (r : Int) (q : Nat) : Dw l bs r q = l.map (Oz bs r q) := rfl
theorem Adx (bs : List Bn) (r : Int) (q : Nat) (x : Ver) : vid (Oz bs r q x) = vid x := by
 have := Gt x bs r q;simp only [vid, Oz, this.1, this.2]
theorem Arq {l : List Ver} {bs : List Bn} {v x : Ver} : x ∈ Fl l bs v ↔ x = v ∨ ∃ y ∈ l, x = Oz bs v.rep v.seq y := by
 unfold Fl;rw [Abd];have h : ∀ p, x ∈ (l.map (Oz bs v.rep v.seq)).take p ++ v :: (l.map (Oz bs v.rep v.seq)).drop p ↔ x = v ∨ x ∈ l.map (Oz bs v.rep v.seq) := fun p => by
  conv => rhs; rw [← List.take_append_drop p (l.map (Oz bs v.rep v.seq))]
  simp only [List.mem_append, List.mem_cons];constructor
  · rintro (h | h | h)
    · exact .inr (.inl h)
    · exact .inl h
    · exact .inr (.inr h)
  · rintro (h | h | h)
    · exact .inr (.inl h)
    · exact .inl h
    · exact .inr (.inr h)
 rw [h, List.mem_map];exact or_congr_right ⟨fun ⟨y, h1, h2⟩ => ⟨y, h1, h2.symm⟩, fun ⟨y, h1, h2⟩ => ⟨y, h1, h2.symm⟩⟩
theorem Aug {l : List Ver} {r : Int} {q : Nat} (h : Bp l r q = none) : ∃ p, P1 l r q 0 = (p, false) := by
 rcases ha : P1 l r q 0 with ⟨p, b⟩
 cases b with
 | false => exact ⟨p, rfl⟩
 | true => obtain ⟨_, u, _, _, h4⟩ := Iu ha; rw [h] at h4; cases h4
theorem Ae9 {l : List Ver} {bs : List Bn} {v : Ver} (hs : Cv l) (h : Bp l v.rep v.seq = none) : Cv (Fl l bs v) := by
 obtain ⟨p, hp⟩ := Aug h;obtain ⟨_, g2, g3, g4, g5, g6⟩ := H5 hs hp;rw [Nat.sub_zero] at g2 g5 g6;have hM := Qr (bs := bs) (r := v.rep) (q := v.seq) hs;unfold Fl;rw [hp];simp only;have h5 : ∀ x ∈ (Dw l bs v.rep v.seq).take p, Ck x.rep x.seq v.rep v.seq = true := fun x hx => by
  rw [Abd, ← List.map_take] at hx;obtain ⟨y, hy, rfl⟩ := List.mem_map.1 hx;have := Adx bs v.rep v.seq y;simp only [vid, Prod.mk.injEq] at this;rw [this.1, this.2]; exact g5 y hy
 have h6 : ∀ x ∈ (Dw l bs v.rep v.seq).drop p, Ck v.rep v.seq x.rep x.seq = true := fun x hx => by
  rw [Abd, ← List.map_drop] at hx;obtain ⟨y, hy, rfl⟩ := List.mem_map.1 hx;have := Adx bs v.rep v.seq y;simp only [vid, Prod.mk.injEq] at this;rw [this.1, this.2]; exact g6 y hy
 refine List.pairwise_append.2 ⟨List.Pairwise.sublist (List.take_sublist _ _) hM, List.pairwise_cons.2 ⟨h6, List.Pairwise.sublist (List.drop_sublist _ _) hM⟩, fun a ha b hb => ?_⟩;rcases List.mem_cons.1 hb with rfl | hb
 · exact h5 a ha
 · exact Pr (h5 a ha) (h6 b hb)
theorem P8 {α : Type} {P : List α → Prop} (h0 : P []) (h1 : ∀ l a, P l → P (l ++ [a])) : ∀ l, P l := by
 have key : ∀ n, ∀ l : List α, l.length = n → P l := by
  intro n
  induction n with
  | zero => intro l hl; rw [List.eq_nil_of_length_eq_zero hl]; exact h0
  | succ n ih =>
    intro l hl;have hne : l ≠ [] := fun e => by subst e; simp at hl
    rw [← List.dropLast_concat_getLast hne];exact h1 _ _ (ih _ (by simp [hl]))
 exact fun l => key _ l rfl
theorem Aaz {α : Type} {r : α → α → Prop} (ha : ∀ a b, r a b → r b a → False) : ∀ {l m : List α}, l.Pairwise r → m.Pairwise r → (∀ a, a ∈ l ↔ a ∈ m) → l = m
 | [], [], _, _, _ => rfl
 | [], y :: m, _, _, h => by have := (h y).2 List.mem_cons_self; cases this
 | x :: l, [], _, _, h => by have := (h x).1 List.mem_cons_self; cases this
 | x :: l, y :: m, hl, hm, h => by
   obtain ⟨h1, h2⟩ := List.pairwise_cons.1 hl;obtain ⟨k1, k2⟩ := List.pairwise_cons.1 hm;have ex : x = y := by
    rcases List.mem_cons.1 ((h x).1 List.mem_cons_self) with a | a
    · exact a
    · rcases List.mem_cons.1 ((h y).2 List.mem_cons_self) with b | b
      · exact b.symm
      · exact (ha _ _ (h1 y b) (k1 x a)).elim
   subst ex;congr 1;refine Aaz ha h2 k2 fun a => ?_;have ne : ∀ {n : List α}, (∀ b ∈ n, r x b) → x ∉ n := fun hn hx => ha x x (hn x hx) (hn x hx);constructor
   · intro hq;rcases List.mem_cons.1 ((h a).1 (List.mem_cons_of_mem _ hq)) with e | e
     · subst e; exact absurd hq (ne h1)
     · exact e
   · intro hq;rcases List.mem_cons.1 ((h a).2 (List.mem_cons_of_mem _ hq)) with e | e
     · subst e; exact absurd hq (ne k1)
     · exact e
theorem N3 {l m : List Ent} (hl : Ds l) (hm : Ds m) (h : ∀ x, x ∈ l ↔ x ∈ m) : l = m := Aaz (fun a b h k => Nc h k) hl hm h
theorem Yp {l m : List Ver} (hl : Cv l) (hm : Cv m) (h : ∀ x, x ∈ l ↔ x ∈ m) : l = m := Aaz (fun a b h k => Nc (a := (a.rep, a.seq)) (b := (b.rep, b.seq)) h k) hl hm h
theorem Wc {l : List Obj} : El l ↔ l.Pairwise fun a b => H9 a.id b.id = true := by
 unfold El Ds; rw [List.pairwise_map]; exact Iff.rfl
theorem Sc {l m : List Obj} (hl : El l) (hm : El m) (h : ∀ x, x ∈ l ↔ x ∈ m) : l = m := Aaz (fun a b h k => Nc h k) (Wc.1 hl) (Wc.1 hm) h
structure Acc (s : St) (e : Evt) : Prop where
 ck : Bk e = true
 new : Bl s.known e.rep e.seq = false
 dep : Um e.dep s.known
 ret : s.ret (e.rep - 1).toNat = false
 why : Ud s e = 0
theorem Rr {s : St} {e : Evt} : Ew s e = 0 ↔ Acc s e := by
 unfold Ew;constructor
 · intro h;split at h
   · cases h
   · split at h
     · cases h
     · split at h
       · cases h
       · split at h
         · cases h
         · rename_i h1 h2 h3 h4;exact ⟨by simpa using h1, by simpa using h2, by simpa using h3, by simpa using h4, h⟩
 · intro ⟨h1, h2, h3, h4, h5⟩;rw [if_neg (by rw [h1]; simp), if_neg (by rw [h2]; simp), if_neg (fun q => q h3), if_neg (by rw [h4]; simp)];exact h5
inductive Val : List Evt → Prop
 | nil : Val []
 | snoc {l : List Evt} {e : Evt} : Val l → ev e → Ew (Av l) e = 0 → Val (l ++ [e])
theorem Fd (l : List Evt) : (Av l).known = Dj l := (Aez l l).2
theorem Oh (l : List Evt) : (Av l).ents = C2 l l := (Aez l l).1
theorem Val.inv {l : List Evt} {e : Evt} (h : Val (l ++ [e])) : Val l ∧ ev e ∧ Ew (Av l) e = 0 := by
 generalize hm : l ++ [e] = m at h;cases h with
 | nil => simp at hm
 | snoc a b c =>
   obtain ⟨rfl, h2⟩ := List.append_inj' hm rfl;cases h2;exact ⟨a, b, c⟩
theorem Val.pre {l m : List Evt} : Val (l ++ m) → Val l :=
 P8 (P := fun m => Val (l ++ m) → Val l) (fun h => by simpa using h) (fun m e ih h => by
  rw [← List.append_assoc] at h;exact ih h.inv.1) m
theorem Nd {a : Vc} {i : Bn} : Bl a i.1 i.2 = true ↔ 1 ≤ i.2 ∧ 1 ≤ i.1 ∧ i.1 ≤ 8 ∧ i.2 ≤ a (i.1 - 1).toNat := by
 refine ⟨Aeh, fun ⟨h1, h2, h3, h4⟩ => ?_⟩;unfold Bl Hs; rw [if_pos ⟨h2, h3⟩]; exact decide_eq_true ⟨h1, h4⟩
theorem P5 {v : Vc} {r : Int} {q : Nat} (hr : 1 ≤ r ∧ r ≤ 8) (i : Nat) : A9 v r q i = if i = (r - 1).toNat then max (v i) q else v i := by
 unfold A9 Dp; rw [if_pos hr]; split
 · rename_i h; rw [h]
 · rfl
theorem Z6 {v : Vc} {r : Int} {q : Nat} (i : Nat) : v i ≤ A9 v r q i := by
 by_cases hr : 1 ≤ r ∧ r ≤ 8
 · rw [P5 hr]; split <;> omega
 · unfold A9; rw [if_neg hr]; exact Nat.le_refl _
theorem Asp {a b : Vc} (h : ∀ i, i < 8 → a i ≤ b i) {i : Bn} (k : Bl a i.1 i.2 = true) : Bl b i.1 i.2 = true := by
 rw [Nd] at k ⊢;have := h (i.1 - 1).toNat (by omega);omega
theorem Afb {s : St} {e : Evt} (h : Acc s e) : 1 ≤ e.rep ∧ e.rep ≤ 8 ∧ e.seq = s.known (e.rep - 1).toNat + 1 := by
 obtain ⟨b1, b2, b3, b4, b5, b6, b7⟩ := Cx h.ck;have h1 := h.dep (e.rep - 1).toNat (by omega);have h2 : ¬ Bl s.known e.rep e.seq = true := by rw [h.new]; simp
 rw [show Bl s.known e.rep e.seq = Bl s.known (Ak e).1 (Ak e).2 from rfl, Nd] at h2;simp only at h2;omega
theorem Val.known {l : List Evt} (h : Val l) : NodE l ∧ ∀ i : Bn, Bl (Dj l) i.1 i.2 = true ↔ ∃ e ∈ l, Ak e = i := by
 induction h with
 | nil => exact ⟨List.nodup_nil, fun i => by rw [Nd]; simp [Dj]; omega⟩
 | @snoc l e hl he hw ih =>
   have ha := Rr.1 hw;obtain ⟨n1, n2, n3⟩ := Afb ha;have hb := Cx ha.ck;rw [Fd] at n3;have hnew : ¬ ∃ f ∈ l, Ak f = Ak e := fun q => by
    have := (ih.2 (Ak e)).2 q;have h2 := ha.new;rw [Fd] at h2;rw [show Bl (Dj l) (Ak e).1 (Ak e).2 = Bl (Dj l) e.rep e.seq from rfl, h2] at this;cases this
   refine ⟨?_, fun i => ?_⟩
   · unfold NodE;rw [List.map_append, List.nodup_append];refine ⟨ih.1, by simp, fun a hm b hb q => hnew ?_⟩;obtain ⟨f, hf, rfl⟩ := List.mem_map.1 hm;simp at hb;exact ⟨f, hf, by rw [q, hb]⟩
   · rw [Kb];have key : Bl (A9 (Dj l) e.rep e.seq) i.1 i.2 = true ↔ Bl (Dj l) i.1 i.2 = true ∨ i = Ak e := by
      rw [Nd, Nd, P5 ⟨n1, n2⟩];by_cases hi : i = Ak e
      · subst hi;simp only [or_true, iff_true];refine ⟨hb.2.2.1, n1, n2, ?_⟩;simp only [if_true]; exact Nat.le_max_right _ _
      · simp only [hi, or_false];by_cases hr : i.1 = e.rep
        · have hq : i.2 ≠ e.seq := fun q => hi (Prod.ext hr q);rw [hr, if_pos rfl];omega
        · constructor
          · rintro ⟨a, b, c, d⟩;rw [if_neg (by omega)] at d;exact ⟨a, b, c, d⟩
          · rintro ⟨a, b, c, d⟩;rw [if_neg (by omega)];exact ⟨a, b, c, d⟩
     rw [key, ih.2];constructor
     · rintro (⟨f, hf, q⟩ | q)
       · exact ⟨f, by simp [hf], q⟩
       · exact ⟨e, by simp, q.symm⟩
     · rintro ⟨f, hf, q⟩;rcases List.mem_append.1 hf with hf | hf
       · exact .inl ⟨f, hf, q⟩
       · rw [List.mem_singleton] at hf; subst hf; exact .inr q.symm
theorem Val.nod {l : List Evt} (h : Val l) : NodE l := h.known.1
theorem Val.has {l : List Evt} (h : Val l) {i : Bn} : Bl (Dj l) i.1 i.2 = true ↔ ∃ e ∈ l, Ak e = i := h.known.2 i
theorem Val.mem {l : List Evt} (h : Val l) {e : Evt} (he : e ∈ l) : ∃ a b, l = a ++ e :: b ∧ Val a ∧ ev e ∧ Acc (Av a) e := by
 obtain ⟨a, b, rfl⟩ := List.append_of_mem he;have h2 : Val ((a ++ [e]) ++ b) := by rw [List.append_assoc]; exact h
 obtain ⟨h3, h4, h5⟩ := h2.pre.inv;exact ⟨a, b, rfl, h3, h4, Rr.1 h5⟩
theorem Vj {l : List Evt} (h : Val l) {e : Evt} (ha : Acc (Av l) e) {i : Bn} (k : Bl e.dep i.1 i.2 = true) : ∃ f ∈ l, Ak f = i := by
 refine h.has.1 (Asp (fun j hj => ?_) k);have := ha.dep j hj
 rwa [Fd] at this
theorem Gv {l : List Evt} (h : Val l) {e : Evt} (ha : Acc (Av l) e) : ∀ f ∈ l, Ak f ≠ Ak e := fun f hf q => by
 have h1 := h.has.2 ⟨f, hf, q⟩;have h2 := ha.new;rw [Fd] at h2;rw [show Bl (Dj l) (Ak e).1 (Ak e).2 = Bl (Dj l) e.rep e.seq from rfl, h2] at h1;cases h1
theorem Ajr {e : Evt} {l : List Bn} {n : Int} (h : Ef l n e.dep = true) : ∀ b ∈ l, Bl e.dep b.1 b.2 = true := fun b hb => by
 unfold Ef G6 at h;simp only [Bool.and_eq_true, decide_eq_true_eq] at h;obtain ⟨j, hj⟩ := List.mem_iff_getElem?.1 hb;obtain ⟨hlt, hg⟩ := List.getElem?_eq_some_iff.1 hj;have := (h.2 j hlt).1;rw [hg] at this; exact this
theorem Nm {e : Evt} (h : Bk e = true) : Gf e = true ∧ Ct (Cr e) = true := by
 unfold Bk at h;simp only [Bool.and_eq_true, decide_eq_true_eq] at h;exact ⟨h.2.2.2, h.2.2.1⟩
theorem Xp {e : Evt} (h : Bk e = true) (hk : e.kind = 6 ∨ e.kind = 7) : ∀ b ∈ e.gone.l, Bl e.dep b.1 b.2 = true := by
 have hK := (Nm h).1;rcases hk with k | k
 · rw [U3 k] at hK; simp only [Bool.and_eq_true] at hK; exact Ajr hK.2
 · rw [U2 k] at hK; simp only [Bool.and_eq_true] at hK; exact Ajr hK.2.1
theorem Ani {e : Evt} (h : Bk e = true) (hk : e.kind = 3 ∨ e.kind = 4 ∨ e.kind = 5 ∨ e.kind = 6 ∨ e.kind = 7) : Bl e.dep e.orep e.oseq = true := by
 have hK := (Nm h).1;rcases hk with k | k | k | k | k
 · rw [Kc k] at hK; simp only [Bool.and_eq_true] at hK; exact hK.1
 · rw [Ob k] at hK; simp only [Bool.and_eq_true] at hK; exact hK.1
 · rw [Oa k] at hK; simp only [Bool.and_eq_true] at hK; exact hK.1
 · rw [U3 k] at hK; simp only [Bool.and_eq_true] at hK; exact hK.1
 · rw [U2 k] at hK; simp only [Bool.and_eq_true] at hK; exact hK.1
theorem Xo {e : Evt} (h : Bk e = true) (hk : ¬ (e.kind = 3 ∨ e.kind = 4 ∨ e.kind = 5 ∨ e.kind = 6 ∨ e.kind = 7)) : Ay e = (0, 0) := by
 obtain ⟨b1, b2, b3, b4, b5, b6, b7⟩ := Cx h;have hz := (Nm h).2;have h4 : e.kind = 1 ∨ e.kind = 2 ∨ e.kind = 8 ∨ e.kind = 9 := by omega
 have hz' : Bz e.orep e.oseq = true := by
  rcases h4 with k | k | k | k
  · rw [Avi k] at hz; simp only [Al, Bool.and_eq_true, Bool.or_eq_true, Bool.false_eq_true, false_or] at hz; exact hz.1
  · rw [A0w k] at hz; simp only [Al, Bool.and_eq_true, Bool.or_eq_true, Bool.false_eq_true, false_or] at hz; exact hz.1
  · rw [A0v k] at hz; simp only [Al, Bool.and_eq_true, Bool.or_eq_true, Bool.false_eq_true, false_or] at hz; exact hz.1
  · rw [A0u k] at hz; simp only [Al, Bool.and_eq_true, Bool.or_eq_true, Bool.false_eq_true, false_or] at hz; exact hz.1
 obtain ⟨h1, h2⟩ := of_decide_eq_true hz';exact Prod.ext h1 h2
theorem Axb {l : List Evt} {e : Evt} (h : Val l) (ha : Acc (Av l) e) (obj : Bn) {g : Evt} (hg : g ∈ l ++ [e]) : Hu g obj (Ak e) = false := by
 cases hq : Hu g obj (Ak e) with
 | false => rfl
 | true =>
   unfold Hu at hq;simp only [Bool.and_eq_true, decide_eq_true_eq] at hq;rcases List.mem_append.1 hg with hg | hg
   · obtain ⟨a, b, rfl, h1, _, h3⟩ := h.mem hg;obtain ⟨f, hf, hi⟩ := Vj h1 h3 (Xp h3.ck hq.1 _ hq.2.2);exact absurd hi (Gv h ha f (by simp [hf]))
   · rw [List.mem_singleton] at hg; subst hg;obtain ⟨f, hf, hi⟩ := Vj h ha (Xp ha.ck hq.1 _ hq.2.2);exact absurd hi (Gv h ha f hf)
theorem Are {l : List Evt} {e : Evt} (h : Val l) (ha : Acc (Av l) e) {g : Evt} (hg : g ∈ l ++ [e]) : Ay g ≠ Ak e := fun q => by
 have base := Cx ha.ck;have hne : ∀ {g : Evt}, Bk g = true → Ay g = Ak e → Bl g.dep g.orep g.oseq = true := fun {g} hc q => by
  refine Ani hc (Classical.byContradiction fun hk => ?_);have := Xo hc hk;rw [this] at q;have q1 : (0 : Int) = e.rep := congrArg Prod.fst q;have := base.1;omega
 rcases List.mem_append.1 hg with hg | hg
 · obtain ⟨a, b, rfl, h1, _, h3⟩ := h.mem hg;obtain ⟨f, hf, hi⟩ := Vj h1 h3 (i := Ay g) (hne h3.ck q);rw [q] at hi;exact absurd hi (Gv h ha f (by simp [hf]))
 · rw [List.mem_singleton] at hg; subst hg;obtain ⟨f, hf, hi⟩ := Vj h ha (i := Ay g) (hne ha.ck q);rw [q] at hi;exact absurd hi (Gv h ha f hf)
theorem Su {l : List Evt} : ∀ m : List Evt, NodE m → Ds (C2 l m) ∧ ∀ x, x ∈ C2 l m ↔ ∃ e ∈ m, mkB e = true ∧ x = C8 l e := by
 refine P8 (fun _ => ⟨List.Pairwise.nil, by simp [C2]⟩) fun m e ih hn => ?_;have hn' : NodE m := by unfold NodE at *; rw [List.map_append] at hn; exact hn.sublist (List.sublist_append_left _ _)
 obtain ⟨h1, h2⟩ := ih hn';have grow : ∀ x : Ent, (∃ f ∈ m ++ [e], mkB f = true ∧ x = C8 l f) ↔ (∃ f ∈ m, mkB f = true ∧ x = C8 l f) ∨ (mkB e = true ∧ x = C8 l e) := fun o => by
  simp only [List.mem_append, List.mem_singleton];constructor
  · rintro ⟨f, hf | rfl, h⟩
    · exact .inl ⟨f, hf, h⟩
    · exact .inr h
  · rintro (⟨f, hf, h⟩ | h)
    · exact ⟨f, .inl hf, h⟩
    · exact ⟨e, .inr rfl, h⟩
 rw [Pv];by_cases hm : mkB e = true
 · rw [if_pos hm, Yt h1];have hnew : Hq (C2 l m) (C8 l e).id = none := F8.2 fun x hx q => by
    obtain ⟨f, hf, _, rfl⟩ := (h2 x).1 hx;unfold NodE at hn;rw [List.map_append, List.nodup_append] at hn;exact hn.2.2 (Ak f) (List.mem_map_of_mem hf) (Ak e) (by simp) q
   have e1 : Aga (C2 l m) (C8 l e) = Oo (C2 l m) (C8 l e) := by
    unfold Aga; rw [if_neg (by rw [Ajq.2 hnew]; simp)]
   rw [e1];refine ⟨Wa h1 hnew, fun x => ?_⟩;rw [Abc, h2, grow];exact ⟨fun q => q.elim (fun q => .inr ⟨hm, q⟩) .inl, fun q => q.elim .inr fun q => .inl q.2⟩
 · rw [if_neg hm];refine ⟨h1, fun x => ?_⟩;rw [h2, grow];exact ⟨.inl, fun q => q.resolve_right fun q => hm q.1⟩
theorem Agv (b : Bn) (x : Ent) : Na b (Na b x) = Na b x := by
 unfold Na; simp only [Acj, Afi]
theorem Zg (e : Evt) : ∀ (m l : List Ent), Fk e l m = l.map fun x => if m.any (fun y => decide (y.id = x.id) && Eu e y) = true then Na (Ak e) x else x
 | [], l => by simp [Fk]
 | y :: m, l => by
   have ih := Zg e m (if Eu e y = true then killL l y.id (Ak e) else l);unfold Fk at ih ⊢;simp only [List.foldl_cons];rw [ih];split
   · rename_i hg;unfold killL Uh;rw [List.map_map];refine List.map_congr_left fun x hx => ?_;simp only [Function.comp];by_cases hy : x.id = y.id
     · simp only [if_pos hy];have e2 : List.any (y :: m) (fun z => decide (z.id = x.id) && Eu e z) = true := by simp [hy, hg]
       rw [if_pos e2];split
       · exact Agv _ _
       · rfl
     · simp only [if_neg hy];have e2 : List.any (y :: m) (fun z => decide (z.id = x.id) && Eu e z) = List.any m (fun z => decide (z.id = x.id) && Eu e z) := by
        rw [List.any_cons, decide_eq_false (fun q : y.id = x.id => hy q.symm), Bool.false_and, Bool.false_or]
       rw [e2]
   · rename_i hg;refine List.map_congr_left fun x hx => ?_;have e2 : List.any (y :: m) (fun z => decide (z.id = x.id) && Eu e z) = List.any m (fun z => decide (z.id = x.id) && Eu e z) := by
      simp [show Eu e y = false by simpa using hg]
     rw [e2]
theorem Asu {e : Evt} {l : List Ent} (hs : Ds l) : Fk e l l = l.map fun x => if Eu e x = true then Na (Ak e) x else x := by
 rw [Zg];refine List.map_congr_left fun x hx => ?_;have : l.any (fun y => decide (y.id = x.id) && Eu e y) = Eu e x := by
  rw [Bool.eq_iff_iff, List.any_eq_true];constructor
  · rintro ⟨y, hy, h⟩;simp only [Bool.and_eq_true, decide_eq_true_eq] at h;have h1 := Adz hs hy;have h2 := Adz hs hx;rw [h.1] at h1;rw [h1] at h2; cases h2;exact h.2
  · exact fun h => ⟨x, hx, by simp [h]⟩
 rw [this]
theorem Azj {l : List Evt} {e : Evt} (h : Val l) (ha : Acc (Av l) e) (obj : Bn) : byG (l ++ [e]) obj (Ak e) = fun _ => 0 := by
 unfold byG;have : ∀ m : List Evt, (∀ g ∈ m, Hu g obj (Ak e) = false) → m.foldl (fun g f => if Hu f obj (Ak e) = true then A9 g f.rep f.seq else g) (fun _ => 0 : Vc) = fun _ => 0 := fun m hm => by
  induction m with
  | nil => rfl
  | cons g m ih =>
    rw [List.foldl_cons, if_neg (by rw [hm g List.mem_cons_self]; simp)];exact ih fun f hf => hm f (List.mem_cons_of_mem _ hf)
 exact this _ fun g hg => Axb h ha obj hg
theorem Atl {l : List Evt} {e : Evt} (h : Val l) (ha : Acc (Av l) e) : C8 (l ++ [e]) e = Gi e (Ey e) := by
 unfold C8 Gi; rw [Azj h ha]
theorem Xj (l : List Evt) (e f : Evt) : C8 (l ++ [e]) f = if Hu e (Ey f) (Ak f) = true then Na (Ak e) (C8 l f) else C8 l f := by
 unfold C8;rw [Rk];split
 · unfold Na; simp only;rw [show A9 (byG l (Ey f) (Ak f)) e.rep e.seq = A9 (byG l (Ey f) (Ak f)) (Ak e).1 (Ak e).2 from rfl, Ach]
 · rfl
theorem Xe (l : List Evt) (e f : Evt) (hk : e.kind = 6 ∨ e.kind = 7) : Hu e (Ey f) (Ak f) = Eu e (C8 l f) := by
 unfold Hu Eu C8;simp only [hk, decide_true, Bool.true_and];congr 1;exact decide_eq_decide.2 ⟨Eq.symm, Eq.symm⟩
theorem Am5 {l : List Evt} {e : Evt} (h : Val l) (ha : Acc (Av l) e) :
 C2 (l ++ [e]) (l ++ [e]) = if e.kind = 1 ∨ e.kind = 2 then Rp (C2 l l) (Gi e (Ak e)) else if e.kind = 7 then Rp (Fk e (C2 l l) (C2 l l)) (Gi e (Ay e)) else if e.kind = 6 then Fk e (C2 l l) (C2 l l) else C2 l l := by
 have hn := h.nod;have hn2 : NodE (l ++ [e]) := by
  unfold NodE;rw [List.map_append, List.nodup_append];refine ⟨hn, by simp, fun a hm b hb q => ?_⟩;obtain ⟨f, hf, rfl⟩ := List.mem_map.1 hm;simp at hb;exact Gv h ha f hf (by rw [q, hb])
 obtain ⟨s1, m1⟩ := Su (l := l) l hn;obtain ⟨s2, m2⟩ := Su (l := l ++ [e]) (l ++ [e]) hn2;have hlook : ∀ {m : List Ent}, (∀ x ∈ m, ∃ f ∈ l, x.id = Ak f) → Hq m (Ak e) = none := fun hm => F8.2 fun x hx q => by
  obtain ⟨f, hf, hi⟩ := hm x hx;exact Gv h ha f hf (by rw [← hi, q])
 have hadd : ∀ {m : List Ent} {o : Bn}, Ds m → (∀ x ∈ m, ∃ f ∈ l, x.id = Ak f) → Ds (Rp m (Gi e o)) ∧ ∀ x, x ∈ Rp m (Gi e o) ↔ x = Gi e o ∨ x ∈ m := fun {m o} hs hm => by
  have hl := hlook hm;have e1 : Rp m (Gi e o) = Oo m (Gi e o) := by unfold Rp; rw [if_neg (by rw [show Q0 m (Gi e o).id = false from Ajq.2 hl]; simp)]
  rw [e1];exact ⟨Wa hs hl, fun x => Abc⟩
 have hold : ∀ x ∈ C2 l l, ∃ f ∈ l, x.id = Ak f := fun x hx => by
  obtain ⟨f, hf, _, rfl⟩ := (m1 x).1 hx; exact ⟨f, hf, rfl⟩
 have hgone := L3 (e := e) s1 (C2 l l);have hgeq := Asu (e := e) s1;have hgold : ∀ x ∈ Fk e (C2 l l) (C2 l l), ∃ f ∈ l, x.id = Ak f := fun x hx => by
  rw [hgeq] at hx;obtain ⟨y, hy, rfl⟩ := List.mem_map.1 hx;obtain ⟨f, hf, hi⟩ := hold y hy;refine ⟨f, hf, ?_⟩;split <;> exact hi
 have mG : (e.kind = 6 ∨ e.kind = 7) → ∀ x, x ∈ Fk e (C2 l l) (C2 l l) ↔ ∃ f ∈ l, mkB f = true ∧ x = C8 (l ++ [e]) f := fun hk x => by
  rw [hgeq, List.mem_map];constructor
  · rintro ⟨y, hy, rfl⟩;obtain ⟨f, hf, hm, rfl⟩ := (m1 y).1 hy;exact ⟨f, hf, hm, by rw [Xj, Xe l e f hk]⟩
  · rintro ⟨f, hf, hm, rfl⟩;exact ⟨C8 l f, (m1 _).2 ⟨f, hf, hm, rfl⟩, by rw [Xj, Xe l e f hk]⟩
 have mN : ¬ (e.kind = 6 ∨ e.kind = 7) → ∀ x, x ∈ C2 l l ↔ ∃ f ∈ l, mkB f = true ∧ x = C8 (l ++ [e]) f := fun hk x => by
  rw [m1];have : ∀ f, C8 (l ++ [e]) f = C8 l f := fun f => by
   rw [Xj, if_neg (by unfold Hu; simp [hk])]
  exact ⟨fun ⟨f, a, b, c⟩ => ⟨f, a, b, by rw [this, c]⟩, fun ⟨f, a, b, c⟩ => ⟨f, a, b, by rw [← this, c]⟩⟩
 have grow : ∀ x : Ent, (∃ f ∈ l ++ [e], mkB f = true ∧ x = C8 (l ++ [e]) f) ↔ (mkB e = true ∧ x = Gi e (Ey e)) ∨ (∃ f ∈ l, mkB f = true ∧ x = C8 (l ++ [e]) f) := fun x => by
  rw [← Atl h ha];simp only [List.mem_append, List.mem_singleton];constructor
  · rintro ⟨f, hf | rfl, h⟩
    · exact .inr ⟨f, hf, h⟩
    · exact .inl h
  · rintro (h | ⟨f, hf, h⟩)
    · exact ⟨e, .inr rfl, h⟩
    · exact ⟨f, .inl hf, h⟩
 by_cases h12 : e.kind = 1 ∨ e.kind = 2
 · rw [if_pos h12];have hm : mkB e = true := decide_eq_true (by omega);have ho : Ey e = Ak e := if_neg (by omega);obtain ⟨a1, a2⟩ := hadd (o := Ak e) s1 hold;refine N3 s2 a1 fun x => ?_;rw [m2, grow, a2, mN (by omega), ho];simp [hm]
 rw [if_neg h12];by_cases h7 : e.kind = 7
 · rw [if_pos h7];have hm : mkB e = true := decide_eq_true (by omega);have ho : Ey e = Ay e := if_pos h7;obtain ⟨a1, a2⟩ := hadd (o := Ay e) hgone hgold;refine N3 s2 a1 fun x => ?_;rw [m2, grow, a2, mG (.inr h7), ho];simp [hm]
 rw [if_neg h7];have hm : mkB e = false := decide_eq_false (by omega);by_cases h6 : e.kind = 6
 · rw [if_pos h6];refine N3 s2 hgone fun x => ?_;rw [m2, grow, mG (.inl h6)];simp [hm]
 · rw [if_neg h6];refine N3 s2 s1 fun x => ?_;rw [m2, grow, mN (by omega)];simp [hm]
theorem Ny {l : List Evt} {e : Evt} (h : Val l) (ha : Acc (Av l) e) : NodE (l ++ [e]) := by
 unfold NodE;rw [List.map_append, List.nodup_append];refine ⟨h.nod, by simp, fun a hm b hb q => ?_⟩;obtain ⟨f, hf, rfl⟩ := List.mem_map.1 hm;simp at hb;exact Gv h ha f hf (by rw [q, hb])
theorem Zl {l : List Evt} (hn : NodE l) {e : Evt} (he : e ∈ l) : Ip l (Ak e) = some e := by
 unfold Ip
 induction l with
 | nil => cases he
 | cons f l ih =>
   unfold NodE at hn;rw [List.map_cons, List.nodup_cons] at hn;rw [List.find?_cons];rcases List.mem_cons.1 he with rfl | he
   · simp
   · have : Ak f ≠ Ak e := fun q => hn.1 (q ▸ List.mem_map_of_mem he);rw [decide_eq_false this];exact ih hn.2 he
theorem Am2 {l : List Evt} {i : Bn} (t : List Evt) (h : ∃ f ∈ l, Ak f = i) : Ip (l ++ t) i = Ip l i := by
 obtain ⟨f, hf, hi⟩ := h;unfold Ip;rw [List.find?_append];cases hq : List.find? (fun e => decide (Ak e = i)) l with
 | some x => rfl
 | none => exact absurd hi (by simpa using List.find?_eq_none.1 hq f hf)
theorem Ss (l : List Evt) (e : Evt) : ∀ m : List Evt, (C7 l m e).vers = Cy l (Ak e) l :=
 P8 rfl fun m f ih => by
  rw [Jj];unfold D6;split
  · split
    · split <;> exact ih
    · split <;> exact ih
  · exact ih
theorem Qq {l : List Evt} (hn : NodE l) : El (Av l).objs ∧ (Av l).objs.length ≤ l.length ∧ ∀ o, o ∈ (Av l).objs ↔ ∃ e ∈ l, (e.kind = 1 ∨ e.kind = 2) ∧ o = C7 l l e := Rl l.length l rfl hn
theorem Agl {l : List Obj} {i : Bn} {o : Obj} (h : Fa l i = some o) : o ∈ l ∧ o.id = i := ⟨List.mem_of_getElem? (Gz h).1, (Gz h).2⟩
theorem Rq {l : List Evt} {e : Evt} (h : Val l) (ha : Acc (Av l) e) (hk : e.kind = 3 ∨ e.kind = 4 ∨ e.kind = 5 ∨ e.kind = 6 ∨ e.kind = 7) : ∃ f ∈ l, (f.kind = 1 ∨ f.kind = 2) ∧ Ak f = Ay e ∧ Fa (Av l).objs (Ay e) = some (C7 l l f) ∧ (O7 e = true → (C7 l l f).dir = false ∧ ¬ Dg (Cy l (Ay e) l) e.base.l) := by
 have hw := ha.why;unfold Ud at hw;rw [if_neg (by omega), if_neg (by omega)] at hw;cases ho : Fa (Av l).objs (Ay e) with
 | none => rw [ho] at hw; cases hw
 | some o =>
   rw [ho] at hw;obtain ⟨h1, h2⟩ := Agl ho;obtain ⟨f, hf, hk12, rfl⟩ := ((Qq h.nod).2.2 o).1 h1;have h2' : Ak f = Ay e := by rw [← Jc l f l]; exact h2
   refine ⟨f, hf, hk12, h2', rfl, fun hwr => ?_⟩;have hk3 := of_decide_eq_true hwr;simp only at hw;rw [if_neg (by omega), if_neg (by omega)] at hw;split at hw
   · cases hw
   · split at hw
     · cases hw
     · rename_i hd hm;rw [Ss, h2'] at hm;exact ⟨by simpa using hd, hm⟩
theorem Jy {l : List Evt} {e : Evt} (h : Val l) (ha : Acc (Av l) e) (hw : O7 e = true) : ∀ b ∈ e.base.l, ∃ v, Bp (Cy l (Ay e) l) b.1 b.2 = some v ∧ ∃ g ∈ l, O7 g = true ∧ Ay g = Ay e ∧ Ak g = b ∧ v = Gx l l g := fun b hb => by
 have hk3 := of_decide_eq_true hw;obtain ⟨f, hf, hk, hi, ho, hm⟩ := Rq h ha (by omega);obtain ⟨_, hm⟩ := hm hw;cases hv : Bp (Cy l (Ay e) l) b.1 b.2 with
 | none => exact absurd ⟨b, hb, hv⟩ hm
 | some v =>
   obtain ⟨h1, h2⟩ := Zk hv;obtain ⟨g, hg, ⟨hw, ho⟩, rfl⟩ := (Nx l.length l rfl).1 h1;exact ⟨_, rfl, g, hg, hw, ho, Prod.ext h2.1 h2.2, rfl⟩
noncomputable def Z7 (l : List Evt) (e : Evt) : List UInt8 := match e.base.l with
 | [] => []
 | b :: _ => Dc l l.length b
theorem Xr {e : Evt} (h : Bk e = true) (hw : O7 e = true) : e.data.length ≤ 200 := by
 have hK := Nm h;have hk := of_decide_eq_true hw;rcases hk with k | k | k
 · have h1 := hK.1;rw [Kc k] at h1;simp only [Bool.and_eq_true, Cw, decide_eq_true_eq] at h1;omega
 · have h1 := hK.2;rw [A54 k] at h1;simp only [Al, Bool.and_eq_true, Bool.or_eq_true, decide_eq_true_eq, Bool.false_eq_true, false_or, true_or] at h1;have : e.data = [] := h1.2.2.2.2.2.1;rw [this]; simp
 · have h1 := hK.1;rw [Oa k] at h1;simp only [Bool.and_eq_true, Cw, decide_eq_true_eq] at h1;omega
theorem Aks {e : Evt} (h : Bk e = true) (hw : O7 e = true) {was : List UInt8} (hl : was.length ≤ 200) : (Gj e was).length ≤ 200 := by
 have hd := Xr h hw;unfold Gj;split
 · exact hd
 · split
   · unfold Yc; split
     · simp
     · rw [Aes]; omega
   · unfold Kq; split
     · simp
     · rename_i h; unfold D7 at h; rw [Wr]; omega
theorem Nz {l : List Evt} (h : Val l) : ∀ g ∈ l, O7 g = true → (Dc l l.length (Ak g)).length ≤ 200 ∧ ∀ t n, l.length ≤ n → Dc (l ++ t) n (Ak g) = Dc l l.length (Ak g) := by
 induction h with
 | nil => intro g hg; cases hg
 | @snoc l e hl he hw ih =>
   have ha := Rr.1 hw;intro g hg hgw;have hlen : (l ++ [e]).length = l.length + 1 := by simp
   rcases List.mem_append.1 hg with hg | hg
   · obtain ⟨h1, h2⟩ := ih g hg hgw;have e1 : Dc (l ++ [e]) (l ++ [e]).length (Ak g) = Dc l l.length (Ak g) := h2 [e] _ (by omega);rw [e1];refine ⟨h1, fun t n hn => ?_⟩;rw [List.append_assoc];exact h2 _ n (by omega)
   · rw [List.mem_singleton] at hg; subst hg;have key : ∀ t n, (l ++ [g]).length ≤ n → Dc ((l ++ [g]) ++ t) n (Ak g) = Gj g (Z7 l g) := fun t n hn => by
      obtain ⟨n, rfl⟩ : ∃ k, n = k + 1 := ⟨n - 1, by omega⟩
      simp only [Dc];rw [Am2 t ⟨g, by simp, rfl⟩, Zl (Ny hl ha) (by simp)];simp only;congr 1;unfold Z7;cases hb : g.base.l with
      | nil => rfl
      | cons b r =>
        simp only;obtain ⟨v, hv, f, hf, hfw, _, rfl, _⟩ := Jy hl ha hgw b (by rw [hb]; simp);rw [List.append_assoc];exact (ih f hf hfw).2 _ n (by omega)
     have e1 : Dc (l ++ [g]) (l ++ [g]).length (Ak g) = Gj g (Z7 l g) := by
      have := key [] (l ++ [g]).length (Nat.le_refl _)
      rwa [List.append_nil] at this
     rw [e1];refine ⟨Aks ha.ck hgw ?_, key⟩;unfold Z7;cases hb : g.base.l with
     | nil => simp
     | cons b r =>
       simp only;obtain ⟨v, hv, f, hf, hfw, _, rfl, _⟩ := Jy hl ha hgw b (by rw [hb]; simp);exact (ih f hf hfw).1
theorem Ann {l : List Evt} {e : Evt} (h : Val l) (ha : Acc (Av l) e) (hw : O7 e = true) : Dc (l ++ [e]) (l ++ [e]).length (Ak e) = Gj e (Z7 l e) := by
 rw [show (l ++ [e]).length = l.length + 1 from by simp];simp only [Dc];rw [Zl (Ny h ha) (by simp)];simp only;congr 1;unfold Z7;cases hb : e.base.l with
 | nil => rfl
 | cons b r =>
   simp only;obtain ⟨v, hv, f, hf, hfw, _, rfl, _⟩ := Jy h ha hw b (by rw [hb]; simp);exact (Nz h f hf hfw).2 _ _ (Nat.le_refl _)
theorem Aci {l : List Evt} {e : Evt} (h : Val l) {g : Evt} (hg : g ∈ l) (hw : O7 g = true) : Gx (l ++ [e]) (l ++ [e]) g = if Ze e (Ay g) (Ak g) = true then Er (Gx l l g) e.rep e.seq else Gx l l g := by
 have hb := (Nz h g hg hw).2 [e] (l ++ [e]).length (by simp);unfold Gx;rw [hb, Aei];split <;> rfl
theorem Axc {l : List Evt} {e : Evt} (h : Val l) (ha : Acc (Av l) e) (obj : Bn) {g : Evt} (hg : g ∈ l ++ [e]) : Ze g obj (Ak e) = false := by
 cases hq : Ze g obj (Ak e) with
 | false => rfl
 | true =>
   unfold Ze at hq;simp only [Bool.and_eq_true, decide_eq_true_eq] at hq;rcases List.mem_append.1 hg with hg | hg
   · obtain ⟨a, b, rfl, h1, _, h3⟩ := h.mem hg;obtain ⟨_, _, f, hf, _, _, hi, _⟩ := Jy h1 h3 hq.1 _ hq.2.2;exact absurd hi (Gv h ha f (by simp [hf]))
   · rw [List.mem_singleton] at hg; subst hg;obtain ⟨_, _, f, hf, _, _, hi, _⟩ := Jy h ha hq.1 _ hq.2.2;exact absurd hi (Gv h ha f hf)
theorem Ayf {l : List Evt} {e : Evt} (h : Val l) (ha : Acc (Av l) e) (obj : Bn) : gvG (l ++ [e]) obj (Ak e) = fun _ => 0 := by
 unfold gvG;have : ∀ m : List Evt, (∀ g ∈ m, Ze g obj (Ak e) = false) → m.foldl (fun a g => if Ze g obj (Ak e) = true then A9 a g.rep g.seq else a) (fun _ => 0 : Vc) = fun _ => 0 := fun m hm => by
  induction m with
  | nil => rfl
  | cons g m ih =>
    rw [List.foldl_cons, if_neg (by rw [hm g List.mem_cons_self]; simp)];exact ih fun f hf => hm f (List.mem_cons_of_mem _ hf)
 exact this _ fun g hg => Axc h ha obj hg
theorem Gl {l : List Evt} (h : NodE l) (obj : Bn) : Cv (Cy l obj l) ∧ (Cy l obj l).length ≤ l.length ∧ ∀ v, v ∈ Cy l obj l ↔ ∃ e ∈ l, (O7 e = true ∧ Ay e = obj) ∧ v = Gx l l e := ⟨(I8 l.length l rfl h).1, (I8 l.length l rfl h).2, fun v => Nx l.length l rfl⟩
theorem Nw {l : List Evt} {e : Evt} (h : Val l) (ha : Acc (Av l) e) {obj : Bn} (hx : ¬ (O7 e = true ∧ Ay e = obj)) : Cy (l ++ [e]) obj (l ++ [e]) = Cy l obj l := by
 obtain ⟨s1, _, m1⟩ := Gl h.nod obj;obtain ⟨s2, _, m2⟩ := Gl (Ny h ha) obj;refine Yp s2 s1 fun v => ?_;have key : ∀ g ∈ l, O7 g = true ∧ Ay g = obj → Gx (l ++ [e]) (l ++ [e]) g = Gx l l g := fun g hg ⟨hw, ho⟩ => by
  rw [Aci h hg hw, if_neg];unfold Ze;rw [ho];simp only [Bool.and_eq_true, decide_eq_true_eq];exact fun q => hx ⟨q.1, q.2.1⟩
 rw [m1, m2];constructor
 · rintro ⟨g, hg, hc, rfl⟩;rcases List.mem_append.1 hg with hg | hg
   · exact ⟨g, hg, hc, key g hg hc⟩
   · rw [List.mem_singleton] at hg; subst hg; exact absurd hc hx
 · rintro ⟨g, hg, hc, rfl⟩;exact ⟨g, List.mem_append_left _ hg, hc, (key g hg hc).symm⟩
theorem Anp {l : List Evt} {e : Evt} (h : Val l) (ha : Acc (Av l) e) (hw : O7 e = true) : Ff (Cy l (Ay e) l) e = Gj e (Z7 l e) := by
 have hd : ∀ v ∈ Cy l (Ay e) l, v.data.length ≤ 200 := fun v hv => by
  obtain ⟨g, hg, hc, rfl⟩ := ((Gl h.nod (Ay e)).2.2 v).1 hv;exact (Nz h g hg hc.1).1
 have hk := of_decide_eq_true hw;have hf := Xq ha.ck hk hd;have hwas : (D0 (Cy l (Ay e) l) (Ek e).1 (Ek e).2).1 = Z7 l e := by
  unfold Ek Z7;cases hb : e.base.l with
  | nil => simp only; rw [Rf ⟨rfl, rfl⟩]
  | cons b r =>
    simp only;obtain ⟨v, hv, f, hf, hfw, _, rfl, rfl⟩ := Jy h ha hw b (by rw [hb]; simp);obtain ⟨a, c, _, _, _, h3⟩ := h.mem hf;have hbp := Cx h3.ck;have hbp1 : 1 ≤ f.rep := hbp.1;rw [Ma (fun q => by have := q.1; simp only at this; omega) hv];rfl
 have hwl : (D0 (Cy l (Ay e) l) (Ek e).1 (Ek e).2).1.length ≤ 200 := Zo hd _ _;unfold Ff Gj;rw [hwas] at hwl ⊢;by_cases h5 : e.kind = 5
 · rw [if_pos h5, if_pos h5]
 rw [if_neg h5, if_neg h5];obtain ⟨o1, o2⟩ := hf.off h5;by_cases h4 : e.kind = 4
 · rw [if_pos h4, if_pos h4];unfold Yc; rw [if_neg (by omega)]
 · rw [if_neg h4, if_neg h4];have hl := hf.len (by omega);unfold Kq; rw [if_neg (by unfold D7; omega)]
theorem Aom {l : List Evt} {e : Evt} (h : Val l) (ha : Acc (Av l) e) (hw : O7 e = true) : Cy (l ++ [e]) (Ay e) (l ++ [e]) = Fl (Cy l (Ay e) l) e.base.l (R3 e.rep e.seq (Ff (Cy l (Ay e) l) e)) := by
 obtain ⟨s1, _, m1⟩ := Gl h.nod (Ay e);obtain ⟨s2, _, m2⟩ := Gl (Ny h ha) (Ay e);have hnew : Bp (Cy l (Ay e) l) e.rep e.seq = none := Ps.2 fun v hv ⟨h1, h2⟩ => by
  obtain ⟨g, hg, _, rfl⟩ := (m1 v).1 hv;exact Gv h ha g hg (Prod.ext h1 h2)
 have hE : Gx (l ++ [e]) (l ++ [e]) e = R3 e.rep e.seq (Ff (Cy l (Ay e) l) e) := by
  unfold Gx R3;rw [Ann h ha hw, Ayf h ha, Anp h ha hw]
 refine Yp s2 (Ae9 s1 hnew) fun v => ?_;rw [m2, Arq, ← hE];have key : ∀ g ∈ l, O7 g = true ∧ Ay g = Ay e → Gx (l ++ [e]) (l ++ [e]) g = Oz e.base.l e.rep e.seq (Gx l l g) := fun g hg ⟨hgw, ho⟩ => by
  rw [Aci h hg hgw];unfold Oz;have : Ze e (Ay g) (Ak g) = decide (((Gx l l g).rep, (Gx l l g).seq) ∈ e.base.l) := by
   unfold Ze;rw [hw, ho];simp; rfl
  rw [this];by_cases hin : ((Gx l l g).rep, (Gx l l g).seq) ∈ e.base.l
  · rw [if_pos (decide_eq_true hin), if_pos hin]
  · rw [if_neg (by simpa using hin), if_neg hin]
 constructor
 · rintro ⟨g, hg, hc, rfl⟩;rcases List.mem_append.1 hg with hg | hg
   · exact .inr ⟨Gx l l g, (m1 _).2 ⟨g, hg, hc, rfl⟩, key g hg hc⟩
   · rw [List.mem_singleton] at hg; subst hg; exact .inl rfl
 · rintro (rfl | ⟨y, hy, rfl⟩)
   · exact ⟨e, by simp, ⟨hw, rfl⟩, rfl⟩
   · obtain ⟨g, hg, hc, rfl⟩ := (m1 y).1 hy;exact ⟨g, List.mem_append_left _ hg, hc, (key g hg hc).symm⟩
theorem Afr (e f : Evt) (o : Obj) (v : List Ver) : D6 e { o with vers := v } f = { D6 e o f with vers := v } := by
 unfold D6;by_cases h1 : Ay f = Ak e
 · rw [if_pos h1, if_pos h1];by_cases h7 : f.kind = 7
   · rw [if_pos h7, if_pos h7];by_cases hl : Ck o.last.1 o.last.2 f.rep f.seq = true
     · rw [if_pos hl, if_pos hl]
     · rw [if_neg hl, if_neg hl]
   · rw [if_neg h7, if_neg h7];by_cases h6 : f.kind = 6
     · rw [if_pos h6, if_pos h6]
     · rw [if_neg h6, if_neg h6]
 · rw [if_neg h1, if_neg h1]
theorem Aw7 (l L : List Evt) (e : Evt) : ∀ m : List Evt, C7 L m e = { C7 l m e with vers := Cy L (Ak e) L } :=
 P8 rfl fun m f ih => by
  rw [Jj, Jj, ih, Afr]
theorem Aq7 (l : List Evt) (e f : Evt) : C7 (l ++ [e]) (l ++ [e]) f = { D6 f (C7 l l f) e with vers := Cy (l ++ [e]) (Ak f) (l ++ [e]) } := by
 rw [Aw7 l, Jj]
theorem Adr {l : List Evt} {e : Evt} (h : Val l) (ha : Acc (Av l) e) : C7 (l ++ [e]) (l ++ [e]) e = W0 e := by
 have hv : Cy (l ++ [e]) (Ak e) (l ++ [e]) = [] := by
  refine List.eq_nil_iff_forall_not_mem.2 fun v hv => ?_;obtain ⟨g, hg, hc, _⟩ := ((Gl (Ny h ha) (Ak e)).2.2 v).1 hv;exact Are h ha hg hc.2
 unfold C7 W0;rw [hv];have : ∀ (m : List Evt) (o : Obj), (∀ g ∈ m, Ay g ≠ Ak e) → m.foldl (D6 e) o = o := fun m => by
  induction m with
  | nil => intro o _; rfl
  | cons g m ih =>
    intro o hm;rw [List.foldl_cons, show D6 e o g = o from if_neg (hm g List.mem_cons_self)];exact ih o fun f hf => hm f (List.mem_cons_of_mem _ hf)
 exact this _ _ fun g hg => Are h ha hg
def GO (e : Evt) (x : Obj) : Obj :=
 if e.kind = 7 then W3 e x
 else if e.kind = 6 then { x with seen := Cm x.seen (A9 e.dep e.rep e.seq) }
 else { x with vers := Fl x.vers e.base.l (R3 e.rep e.seq (Ff x.vers e)) }
theorem Arl (e : Evt) (x : Obj) : (W3 e x).id = x.id := by unfold W3; split <;> rfl
theorem Baj (e : Evt) (x : Obj) : (GO e x).id = x.id := by
 unfold GO;split
 · exact Arl e x
 · split <;> rfl
theorem Apn {l : List Obj} (hs : El l) {i : Bn} {o : Obj} (h : Fa l i = some o) (g : Obj → Obj) : l.set (Bs l i) (g o) = l.map fun x => if x.id = i then g x else x := by
 obtain ⟨h1, h2⟩ := Gz h;apply List.ext_getElem?;intro j;rw [List.getElem?_map];by_cases hj : Bs l i = j
 · subst hj;rw [List.getElem?_set_self (List.getElem?_eq_some_iff.1 h1).1, h1];simp only [Option.map_some];rw [if_pos h2]
 · rw [List.getElem?_set_ne hj];cases hy : l[j]? with
   | none => rfl
   | some y =>
     simp only [Option.map_some];rw [if_neg];intro q;rcases Nat.lt_or_gt_of_ne hj with k | k
     · have := Kz hs h1 hy k; rw [h2, q] at this; exact Ga this
     · have := Kz hs hy h1 k; rw [h2, q] at this; exact Ga this
theorem Ay2 {s : St} (hs : El s.objs) {e : Evt} (hk : e.kind = 3 ∨ e.kind = 4 ∨ e.kind = 5 ∨ e.kind = 6 ∨ e.kind = 7) {o : Obj} (h : Fa s.objs (Ay e) = some o) : (doS s e).objs = s.objs.map fun x => if x.id = Ay e then GO e x else x := by
 unfold doS;rw [if_neg (by omega), if_neg (by omega), if_neg (by omega), h, ← Apn hs h (GO e)];simp only;unfold GO;by_cases h7 : e.kind = 7
 · rw [if_pos h7, if_pos h7]; rfl
 rw [if_neg h7, if_neg h7];by_cases h6 : e.kind = 6
 · rw [if_pos h6, if_pos h6]; rfl
 · rw [if_neg h6, if_neg h6]; rfl
theorem Akx {l : List Obj} (hs : El l) {g : Obj → Obj} (hg : ∀ x, (g x).id = x.id) : El (l.map g) := by
 rw [Wc] at *;rw [List.pairwise_map];exact hs.imp fun {a b} h => by rw [hg, hg]; exact h
theorem A18 {l : List Evt} (h : Val l) {f : Evt} (hf : f ∈ l) : Ak f ≠ (0, 0) := fun q => by
 obtain ⟨a, b, _, _, _, h3⟩ := h.mem hf;have h1 : 1 ≤ f.rep := (Cx h3.ck).1;have h2 : f.rep = 0 := congrArg Prod.fst q;omega
theorem Ajd {l : List Evt} {e : Evt} (h : Val l) (ha : Acc (Av l) e) {f : Evt} (hf : f ∈ l) :
 C7 (l ++ [e]) (l ++ [e]) f = if (e.kind = 3 ∨ e.kind = 4 ∨ e.kind = 5 ∨ e.kind = 6 ∨ e.kind = 7) ∧ Ak f = Ay e then GO e (C7 l l f) else C7 l l f := by
 rw [Aq7];have hov := Ss l f l;by_cases hk : e.kind = 3 ∨ e.kind = 4 ∨ e.kind = 5 ∨ e.kind = 6 ∨ e.kind = 7;rotate_left
 · rw [if_neg fun q => hk q.1];have hw : O7 e = false := decide_eq_false (by omega);rw [Nw h ha (fun q => by rw [hw] at q; simp at q), ← hov];have h0 := Xo ha.ck hk;have : D6 f (C7 l l f) e = C7 l l f := if_neg (by rw [h0]; exact fun q => A18 h hf q.symm);rw [this]
 by_cases hi : Ak f = Ay e;rotate_left
 · rw [if_neg fun q => hi q.2, Nw h ha (fun q => hi q.2.symm), ← hov];have : D6 f (C7 l l f) e = C7 l l f := if_neg fun q => hi q.symm;rw [this]
 rw [if_pos ⟨hk, hi⟩];unfold D6 GO;rw [if_pos hi.symm];by_cases h7 : e.kind = 7
 · have hw : O7 e = false := decide_eq_false (by omega);rw [if_pos h7, if_pos h7, Nw h ha (fun q => by rw [hw] at q; simp at q), ← hov];unfold W3;split <;> rfl
 rw [if_neg h7, if_neg h7];by_cases h6 : e.kind = 6
 · have hw : O7 e = false := decide_eq_false (by omega);rw [if_pos h6, if_pos h6, Nw h ha (fun q => by rw [hw] at q; simp at q), ← hov]
 · rw [if_neg h6, if_neg h6];have hw : O7 e = true := decide_eq_true (by omega);rw [hi, Aom h ha hw, hov, hi]
theorem Alq {l : List Evt} {e : Evt} (h : Val l) (ha : Acc (Av l) e) : (Av (l ++ [e])).objs = (Hn (Av l) e).objs := by
 obtain ⟨s1, _, m1⟩ := Qq h.nod;obtain ⟨s2, _, m2⟩ := Qq (Ny h ha);have hkn : (Hg (Av l) e).objs = (Av l).objs := rfl;by_cases hk : e.kind = 3 ∨ e.kind = 4 ∨ e.kind = 5 ∨ e.kind = 6 ∨ e.kind = 7
 · obtain ⟨f0, hf0, _, _, ho, _⟩ := Rq h ha hk;have hd := Ay2 (s := Hg (Av l) e) s1 hk ho;unfold Hn;rw [hd];refine Sc s2 (Akx s1 fun x => by split; exact Baj e x; rfl) fun x => ?_;rw [m2, List.mem_map];have key : ∀ f ∈ l, C7 (l ++ [e]) (l ++ [e]) f = if (C7 l l f).id = Ay e then GO e (C7 l l f) else C7 l l f := fun f hf => by
    rw [Ajd h ha hf, Jc];by_cases hi : Ak f = Ay e
    · rw [if_pos ⟨hk, hi⟩, if_pos hi]
    · rw [if_neg fun q => hi q.2, if_neg hi]
   constructor
   · rintro ⟨f, hf, hc, rfl⟩;rcases List.mem_append.1 hf with hf | hf
     · exact ⟨C7 l l f, (m1 _).2 ⟨f, hf, hc, rfl⟩, (key f hf).symm⟩
     · rw [List.mem_singleton] at hf; subst hf; omega
   · rintro ⟨y, hy, rfl⟩;obtain ⟨f, hf, hc, rfl⟩ := (m1 y).1 hy;exact ⟨f, List.mem_append_left _ hf, hc, (key f hf).symm⟩
 have key : ∀ f ∈ l, C7 (l ++ [e]) (l ++ [e]) f = C7 l l f := fun f hf => by
  rw [Ajd h ha hf, if_neg fun q => hk q.1]
 have hb := Cx ha.ck;obtain ⟨_, _, _, _, _, b6, b7⟩ := hb;by_cases h12 : e.kind = 1 ∨ e.kind = 2
 · have hd : (Hn (Av l) e).objs = Hr (Av l).objs (W0 e) := by
    unfold Hn doS;rw [if_neg (by omega), if_neg (by omega), if_pos h12]; rfl
   rw [hd];have hne : ∀ x ∈ (Av l).objs, x.id ≠ (W0 e).id := fun x hx q => by
    obtain ⟨f, hf, hc, rfl⟩ := (m1 x).1 hx;rw [Jc] at q;exact Gv h ha f hf q
   refine Sc s2 (Yq s1 hne) fun x => ?_;rw [m2, Adv];constructor
   · rintro ⟨f, hf, hc, rfl⟩;rcases List.mem_append.1 hf with hf | hf
     · exact .inr ((m1 _).2 ⟨f, hf, hc, key f hf⟩)
     · rw [List.mem_singleton] at hf; subst hf; exact .inl (Adr h ha)
   · rintro (rfl | hx)
     · exact ⟨e, by simp, h12, (Adr h ha).symm⟩
     · obtain ⟨f, hf, hc, rfl⟩ := (m1 x).1 hx;exact ⟨f, List.mem_append_left _ hf, hc, (key f hf).symm⟩
 · have hd : (Hn (Av l) e).objs = (Av l).objs := by
    unfold Hn doS;by_cases h8 : e.kind = 8
    · rw [if_pos h8]; rfl
    · rw [if_neg h8, if_pos (by omega)]; rfl
   rw [hd];refine Sc s2 s1 fun x => ?_;rw [m2, m1];constructor
   · rintro ⟨f, hf, hc, rfl⟩;rcases List.mem_append.1 hf with hf | hf
     · exact ⟨f, hf, hc, key f hf⟩
     · rw [List.mem_singleton] at hf; subst hf; exact absurd hc h12
   · rintro ⟨f, hf, hc, rfl⟩;exact ⟨f, List.mem_append_left _ hf, hc, (key f hf).symm⟩
end Go.Proofs.YthmjebkldgdeiaaGreat.Fw
namespace Go.Proofs.YthmjebkldgdeiaaGreat.Fw
open Go.RowKit Go.Proofs
theorem St.eq {a b : St} (h1 : a.known = b.known) (h2 : a.objs = b.objs) (h3 : a.ents = b.ents) (h4 : a.wards = b.wards) (h5 : a.ret = b.ret) : a = b := by
 cases a; cases b; simp only at h1 h2 h3 h4 h5; subst h1 h2 h3 h4 h5; rfl
theorem A9j (l l' : List Evt) : ∀ m : List Evt, (F3 l m).1.wards = (F3 l' m).1.wards ∧ (F3 l m).1.ret = (F3 l' m).1.ret ∧ (F3 l m).2 = (F3 l' m).2 :=
 P8 ⟨rfl, rfl, rfl⟩ fun m e ⟨h1, h2, h3⟩ => by
  rw [H4, H4];unfold D2;by_cases k12 : e.kind = 1 ∨ e.kind = 2
  · rw [if_pos k12, if_pos k12]; exact ⟨h1, h2, h3⟩
  rw [if_neg k12, if_neg k12];by_cases k8 : e.kind = 8
  · rw [if_pos k8, if_pos k8, h3];split
    · exact ⟨by simp only [Ih, h1], h2, by simp only [h3]⟩
    · exact ⟨h1, h2, h3⟩
  rw [if_neg k8, if_neg k8];by_cases k9 : e.kind = 9
  · rw [if_pos k9, if_pos k9]; exact ⟨h1, by simp only [Ok, h2], h3⟩
  rw [if_neg k9, if_neg k9]; exact ⟨h1, h2, h3⟩
theorem Akf {a b : Vc} {r : Int} {q : Nat} {i : Nat} (h : ∀ i, a i ≤ b i) : A9 a r q i ≤ A9 b r q i := by
 by_cases hr : 1 ≤ r ∧ r ≤ 8
 · rw [P5 hr, P5 hr]; have := h i; split <;> omega
 · unfold A9; rw [if_neg hr, if_neg hr]; exact h i
theorem Al6 (L : List Evt) : ∀ (m : List Evt) (i : Nat), (F3 L m).2 i ≤ Dj m i :=
 P8 (fun i => Nat.le_refl _) fun m e ih i => by
  rw [H4, Kb];unfold D2;split
  · exact Nat.le_trans (ih i) (Z6 i)
  · split
    · split
      · exact Akf ih
      · exact Nat.le_trans (ih i) (Z6 i)
    · split <;> exact Nat.le_trans (ih i) (Z6 i)
theorem Ats (s : St) (e : Evt) : (doS s e).known = s.known := by
 unfold doS;split
 · rfl
 · split
   · rfl
   · split
     · rfl
     · split
       · rfl
       · split
         · rfl
         · split <;> rfl
theorem Xt {l : List Evt} {e : Evt} (h : Val l) (ha : Acc (Av l) e) : Av (l ++ [e]) = Hn (Av l) e := by
 obtain ⟨n1, n2, n3⟩ := Afb ha;obtain ⟨_, _, _, _, _, b6, b7⟩ := Cx ha.ck;rw [Fd] at n3;have hb : Av (l ++ [e]) = (D2 (l ++ [e]) (F3 (l ++ [e]) l) e).1 := by
  show (F3 (l ++ [e]) (l ++ [e])).1 = _;rw [H4]
 obtain ⟨w1, w2, w3⟩ := A9j (l ++ [e]) l l;have hen := Am5 h ha;rw [← Oh (l ++ [e]), ← Oh l] at hen;refine St.eq ?_ (Alq h ha) ?_ ?_ ?_
 · rw [Fd, Kb];unfold Hn; rw [Ats];show _ = A9 (Av l).known e.rep e.seq;rw [Fd]
 · rw [hen];unfold Hn doS;by_cases h8 : e.kind = 8
   · rw [if_pos h8, if_neg (by omega), if_neg (by omega), if_neg (by omega)]; rfl
   rw [if_neg h8];by_cases h9 : e.kind = 9
   · rw [if_pos h9, if_neg (by omega), if_neg (by omega), if_neg (by omega)]; rfl
   rw [if_neg h9];by_cases h12 : e.kind = 1 ∨ e.kind = 2
   · rw [if_pos h12, if_pos h12]; rfl
   rw [if_neg h12, if_neg h12];obtain ⟨f0, hf0, _, _, ho, _⟩ := Rq h ha (by omega);rw [show Fa (Hg (Av l) e).objs (Ay e) = some (C7 l l f0) from ho];simp only;by_cases h7 : e.kind = 7
   · rw [if_pos h7, if_pos h7]; rfl
   rw [if_neg h7, if_neg h7];by_cases h6 : e.kind = 6
   · rw [if_pos h6, if_pos h6]; rfl
   · rw [if_neg h6, if_neg h6]; rfl
 · rw [hb];unfold Hn doS D2;by_cases h8 : e.kind = 8
   · have hlt : Hs (F3 (l ++ [e]) l).2 e.rep < e.seq := by
      unfold Hs; rw [if_pos ⟨n1, n2⟩, w3];have := Al6 l l (e.rep - 1).toNat;omega
     rw [if_pos h8, if_neg (by omega), if_pos h8, if_pos hlt];simp only [Ih, w1]; rfl
   rw [if_neg h8, if_neg h8];by_cases h9 : e.kind = 9
   · rw [if_pos h9, if_neg (by omega), if_pos h9];simp only [Ok, w1]; rfl
   rw [if_neg h9, if_neg h9];by_cases h12 : e.kind = 1 ∨ e.kind = 2
   · rw [if_pos h12, if_pos h12]; simp only [w1]; rfl
   rw [if_neg h12, if_neg h12];obtain ⟨f0, hf0, _, _, ho, _⟩ := Rq h ha (by omega);rw [show Fa (Hg (Av l) e).objs (Ay e) = some (C7 l l f0) from ho];simp only;rw [w1];split
   · rfl
   · split <;> rfl
 · rw [hb];unfold Hn doS D2;by_cases h8 : e.kind = 8
   · rw [if_pos h8, if_neg (by omega), if_pos h8];split
     · simp only [Ih, w2]; rfl
     · simp only [Ih, w2]; rfl
   rw [if_neg h8, if_neg h8];by_cases h9 : e.kind = 9
   · rw [if_pos h9, if_neg (by omega), if_pos h9];simp only [Ok, w2]; rfl
   rw [if_neg h9, if_neg h9];by_cases h12 : e.kind = 1 ∨ e.kind = 2
   · rw [if_pos h12, if_pos h12]; simp only [w2]; rfl
   rw [if_neg h12, if_neg h12];obtain ⟨f0, hf0, _, _, ho, _⟩ := Rq h ha (by omega);rw [show Fa (Hg (Av l) e).objs (Ay e) = some (C7 l l f0) from ho];simp only;rw [w2];split
   · rfl
   · split <;> rfl
theorem Awo {l : List Evt} {e : Evt} (h : Val l) (hw : Ew (Av l) e = 0) : Aay (Av l) e = Av (l ++ [e]) := by
 unfold Aay; rw [if_pos hw, Xt h (Rr.1 hw)]
theorem R5 {l : List Evt} (h : Val l) (hn : l.length ≤ 400) : StIn (Av l) := by
 obtain ⟨s1, l1, m1⟩ := Qq h.nod;have hv : ∀ o ∈ (Av l).objs, ∃ f ∈ l, o.vers = Cy l (Ak f) l := fun o ho => by
  obtain ⟨f, hf, _, rfl⟩ := (m1 o).1 ho;exact ⟨f, hf, Ss l f l⟩
 have hs := (Su (l := l) l h.nod).1;refine ⟨⟨⟨by omega, fun o ho => ?_, ?_⟩, s1, ?_⟩, fun o ho => ?_, fun o ho v hq => ?_, fun o ho v hq => ?_⟩
 · obtain ⟨f, hf, e⟩ := hv o ho;rw [e]; have := (Gl h.nod (Ak f)).2.1; omega
 · rw [Oh]; have := Tc l l.length l rfl; omega
 · rw [Oh]; exact hs
 · obtain ⟨f, hf, e⟩ := hv o ho;rw [e]; exact (Gl h.nod (Ak f)).1
 · obtain ⟨f, hf, e⟩ := hv o ho;rw [e] at hq;obtain ⟨g, hg, hc, rfl⟩ := ((Gl h.nod (Ak f)).2.2 v).1 hq;exact (Nz h g hg hc.1).1
 · obtain ⟨f, hf, e⟩ := hv o ho;rw [e] at hq;obtain ⟨g, hg, hc, rfl⟩ := ((Gl h.nod (Ak f)).2.2 v).1 hq;rw [Fd];exact h.has.2 ⟨g, hg, rfl⟩
theorem Xn {e : Evt} (h : Bk e = true) (hw : O7 e = false) : e.base.l = [] ∧ e.data = [] := by
 obtain ⟨b1, b2, b3, b4, b5, b6, b7⟩ := Cx h;have hz := (Nm h).2;have hk : ¬ (e.kind = 3 ∨ e.kind = 4 ∨ e.kind = 5) := of_decide_eq_false hw;have h4 : e.kind = 1 ∨ e.kind = 2 ∨ e.kind = 6 ∨ e.kind = 7 ∨ e.kind = 8 ∨ e.kind = 9 := by omega
 rcases h4 with k | k | k | k | k | k
 · skip
   rw [Avi k] at hz; simp only [Al, Bool.and_eq_true, Bool.or_eq_true, decide_eq_true_eq, Bool.false_eq_true, false_or, true_or, true_and] at hz;exact ⟨List.length_eq_zero_iff.1 (by omega), hz.2.2.2.2.1⟩
 · skip
   rw [A0w k] at hz; simp only [Al, Bool.and_eq_true, Bool.or_eq_true, decide_eq_true_eq, Bool.false_eq_true, false_or, true_or, true_and] at hz;exact ⟨List.length_eq_zero_iff.1 (by omega), hz.2.2.2.2.1⟩
 · skip
   rw [A53 k] at hz; simp only [Al, Bool.and_eq_true, Bool.or_eq_true, decide_eq_true_eq, Bool.false_eq_true, false_or, true_or, true_and] at hz;exact ⟨List.length_eq_zero_iff.1 (by omega), hz.2.2.2.1⟩
 · skip
   rw [A52 k] at hz; simp only [Al, Bool.and_eq_true, Bool.or_eq_true, decide_eq_true_eq, Bool.false_eq_true, false_or, true_or, true_and] at hz;exact ⟨List.length_eq_zero_iff.1 (by omega), hz.2.2.1⟩
 · skip
   rw [A0v k] at hz; simp only [Al, Bool.and_eq_true, Bool.or_eq_true, decide_eq_true_eq, Bool.false_eq_true, false_or, true_or, true_and] at hz;exact ⟨List.length_eq_zero_iff.1 (by omega), hz.2.2.2.2.2.1⟩
 · skip
   rw [A0u k] at hz; simp only [Al, Bool.and_eq_true, Bool.or_eq_true, decide_eq_true_eq, Bool.false_eq_true, false_or, true_or, true_and] at hz;exact ⟨List.length_eq_zero_iff.1 (by omega), hz.2.2.2.2.2.1⟩
def rkL (l : List Evt) (e : Evt) : Nat := l.findIdx fun x => decide (Ak x = Ak e)
theorem Ul {l : List Evt} (h : Val l) (hn : l.length ≤ 400) : EvsOk l (rkL l) := by
 refine ⟨hn, h.nod, fun e he => ?_, fun e he h5 b t hb e' hf => ?_, fun e he => ?_⟩
 · obtain ⟨a, c, _, _, hv, h3⟩ := h.mem he;refine ⟨hv, ?_⟩;by_cases hw : O7 e = true
   · have := Xr h3.ck hw; omega
   · rw [(Xn h3.ck (by simpa using hw)).2]; simp
 · obtain ⟨a, c, rfl, h1, hv, h3⟩ := h.mem he;by_cases hw : O7 e = true
   · obtain ⟨_, _, g, hg, _, _, hi, _⟩ := Jy h1 h3 hw b (by rw [hb]; simp);have hi' : Ak e' = b := by simpa using List.find?_some hf
     have e1 : rkL (a ++ e :: c) e' < a.length := by
      unfold rkL;rw [List.findIdx_append];have : List.findIdx (fun x => decide (Ak x = Ak e')) a < a.length := List.findIdx_lt_length_of_exists ⟨g, hg, by simp [hi, hi']⟩;rw [if_pos this]; exact this
     have e2 : a.length ≤ rkL (a ++ e :: c) e := by
      unfold rkL;rw [List.findIdx_append];have : ¬ List.findIdx (fun x => decide (Ak x = Ak e)) a < a.length := fun q => by
       have := List.findIdx_getElem (w := q);simp only [decide_eq_true_eq] at this;exact Gv h1 h3 _ (List.getElem_mem _) this
      rw [if_neg this]; omega
     omega
   · rw [(Xn h3.ck (by simpa using hw)).1] at hb; cases hb
 · exact List.findIdx_lt_length_of_exists ⟨e, he, by simp⟩
theorem Uk {l : List Evt} (h : Val l) : ∀ e ∈ l, 1 ≤ e.rep ∧ e.rep ≤ 8 := fun e he => by
 obtain ⟨a, c, _, _, hv, h3⟩ := h.mem he;exact ⟨(Cx h3.ck).1, (Cx h3.ck).2.1⟩
open Classical in
noncomputable def R7 (out : List Evt) (e : Evt) : List Evt := if Ew (Av out) e = 0 then out ++ [e] else out
noncomputable def Mi (l : List Evt) : List Evt := l.foldl R7 []
theorem Vw (l : List Evt) (e : Evt) : Mi (l ++ [e]) = R7 (Mi l) e := by simp [Mi]
theorem Aco : ∀ l : List Evt, (∀ e ∈ l, ev e) → Val (Mi l) ∧ (Mi l).length ≤ l.length ∧ ∀ e ∈ Mi l, e ∈ l :=
 P8 (fun _ => ⟨Val.nil, Nat.le_refl _, fun e he => by cases he⟩) fun l e ih hl => by
  obtain ⟨h1, h2, h3⟩ := ih fun f hf => hl f (List.mem_append_left _ hf);rw [Vw];unfold R7;split
  · rename_i hw;refine ⟨Val.snoc h1 (hl e (by simp)) hw, by simp only [List.length_append, List.length_singleton]; omega, fun f hf => ?_⟩;rcases List.mem_append.1 hf with hf | hf
    · exact List.mem_append_left _ (h3 f hf)
    · exact List.mem_append_right _ hf
  · exact ⟨h1, by simp only [List.length_append, List.length_singleton]; omega, fun f hf => List.mem_append_left _ (h3 f hf)⟩
theorem As9 (x : Ent) : D4 [K1.int .i64, K1.int .u32, K1.int .i64, K1.int .u32, .str, K1.int .i64, K1.int .u32, .int .u32, .int .u32, .int .u32, .int .u32, .int .u32, .int .u32, .int .u32, .int .u32] (Bm x) = True := eq_true rfl
theorem Hd (c : List PV) : Qk c c = true := by simp [Qk]
def V1 (f g : Bool) (l m : List Ent) (k : Nat) : FS := mk [(5, .pv (.i .i64 k)), (0, .pv (.sl f 15 (l.map Bm))), (1, .pv (.sl g 15 (m.map Bm)))] []
theorem Aqf {x y : SV} {f g : Bool} {l m : List Ent} {h d} (hx : Cq h [x, y] = [.pv (.sl f 15 (l.map Bm)), .pv (.sl g 15 (m.map Bm))]) (hl : Bf [x, y] = true) (he : l = m) (hn : l.length ≤ 1000) :
 FunOk Tryz.prog 63 [x, y] h d (.pv (.b true)) [] := by
 refine Co Af fn63 (by simp) hl rfl fun F => ?_;subst he;rw [hx];simp (disch := omega) only [ir63, List.length_map, go_sem];refine Az Af (V1 f g l l) (fun k => k ≤ l.length) (fun k => l.length - k) 0 (by simp) (Ah ?_ ?_) fun k hk => ?_
 · simp (disch := omega) only [go_sem]
 · simp (disch := omega) only [go_sem]
 by_cases hlt : k < l.length
 · have h2 : (l.map Bm)[k]? = some (Bm l[k]) := by simp [hlt]
   generalize l[k] = v at *;have hp := Hd (Bm v);have hf := As9 v;simp (disch := omega) only [V1, List.length_map, h2, Fe, hp, hf, go_sem];refine Ad (k + 1) _ _ rfl (by omega) (by omega) ?_ ?_
   · simp (disch := omega) only [go_sem]
   · simp (disch := omega) only [go_sem]
 · simp (disch := omega) only [V1, List.length_map, go_sem]
end Go.Proofs.YthmjebkldgdeiaaGreat.Fw
