/- What the functions compute that the laws of this seat reach. -/
import Derived.Test.YthmjebkldgdeiaaGreatWalk1
import Derived.OpenShut
import Derived.ShutString
import Derived.ChangeOld
import Derived.SizedLaws
import Derived.ChangeOld
import Derived.Lib.Bytealg
import Derived.Lib.Overlaps
import Derived.OpenShut
import Derived.ShutString
import Derived.SizedLaws
set_option linter.unusedVariables false
set_option linter.unusedSimpArgs false
set_option linter.unusedSectionVars false
set_option maxRecDepth 100000
namespace Go.Proofs.YthmjebkldgdeiaaGreat.Fw
open Go.RowKit Go.Proofs
structure Obj where
 id : Bn
 dir : Bool
 last : Bn
 name : List UInt8
 seen : Vc
 vers : List Ver
def Fl (f : Bool) (z : Nat) (o : Obj) : List PV := [.i .i64 o.id.1, .i .u32 o.id.2, .b o.dir, .i .i64 o.last.1, .i .u32 o.last.2, .s o.name] ++ vE o.seen ++ [.sl f z (o.vers.map Bd)]
def Ap (o : Obj) : List PV := Fl false 11 o
theorem El (f z) (o : Obj) : (Fl f z o).length = 15 := by simp [Fl, Bi]
theorem E2 (o : Obj) : (Ap o).length = 15 := El _ _ o
theorem Ais {f : Bool} {z : Nat} (o : Obj) (h : o.vers = [] ∨ z = 11) : PImpL (Fl f z o) (Ap o) := by
 refine PImpL.app (PImpL.refl _) ⟨G4 (by simp) (h.imp (fun e => by rw [e]; rfl) id) (.refl _), trivial⟩
theorem Ali (f : Bool) (z : Nat) (o : Obj) (K : KK) : LoadK (some (Fl f z o)) 0 2 true K = K (.vec 2 ([.i .i64 o.id.1, .i .u32 o.id.2])) [] := by
 simp only [LoadK, Hg, eq_iff_iff];have e : ((Fl f z o).drop 0).take 2 = [.i .i64 o.id.1, .i .u32 o.id.2] := by
  obtain ⟨i, b, l, n, s, v⟩ := o;simp only [Fl, vE, Cm]; rfl
 rw [e];exact ⟨fun h => h.2.2, fun h => ⟨by simp [El], .inl trivial, h⟩⟩
theorem Adw (f : Bool) (z : Nat) (o : Obj) (K : KK) : LoadK (some (Fl f z o)) 3 2 true K = K (.vec 2 ([.i .i64 o.last.1, .i .u32 o.last.2])) [] := by
 simp only [LoadK, Hg, eq_iff_iff];have e : ((Fl f z o).drop 3).take 2 = [.i .i64 o.last.1, .i .u32 o.last.2] := by
  obtain ⟨i, b, l, n, s, v⟩ := o;simp only [Fl, vE, Cm]; rfl
 rw [e];exact ⟨fun h => h.2.2, fun h => ⟨by simp [El], .inl trivial, h⟩⟩
theorem Adv (f : Bool) (z : Nat) (o : Obj) (K : KK) : LoadK (some (Fl f z o)) 6 8 true K = K (.vec 8 (vE o.seen)) [] := by
 simp only [LoadK, Hg, eq_iff_iff];have e : ((Fl f z o).drop 6).take 8 = vE o.seen := by
  obtain ⟨i, b, l, n, s, v⟩ := o;simp only [Fl, vE, Cm]; rfl
 rw [e];exact ⟨fun h => h.2.2, fun h => ⟨by simp [El], .inl trivial, h⟩⟩
theorem Aga (f : Bool) (z : Nat) (o : Obj) (K : KK) : LoadK (some (Fl f z o)) 2 1 false K = K (.pv (.b o.dir)) [] := by
 simp only [LoadK, Hg, eq_iff_iff];have e : (Fl f z o).getD 2 (.b false) = .b o.dir := by
  obtain ⟨i, b, l, n, s, v⟩ := o;simp only [Fl, vE, Cm]; rfl
 rw [e];exact ⟨fun h => h.2.2, fun h => ⟨by simp [El], .inr trivial, h⟩⟩
theorem Adu (f : Bool) (z : Nat) (o : Obj) (K : KK) : LoadK (some (Fl f z o)) 14 1 false K = K (.pv (.sl f z (o.vers.map Bd))) [] := by
 simp only [LoadK, Hg, eq_iff_iff];have e : (Fl f z o).getD 14 (.b false) = .sl f z (o.vers.map Bd) := by
  obtain ⟨i, b, l, n, s, v⟩ := o;simp only [Fl, vE, Cm]; rfl
 rw [e];exact ⟨fun h => h.2.2, fun h => ⟨by simp [El], .inr trivial, h⟩⟩
theorem Awv (f : Bool) (z : Nat) (o : Obj) (K : KK) : LoadK (some (Fl f z o)) 0 15 true K = K (.vec 15 (Fl f z o)) [] := by
 simp only [LoadK, Hg, eq_iff_iff];have e : ((Fl f z o).drop 0).take 15 = Fl f z o := List.take_of_length_le (by simp [El]);rw [e];exact ⟨fun h => h.2.2, fun h => ⟨by simp [El], .inl trivial, h⟩⟩
theorem H9 (o : Obj) (K : KK) : LoadK (some (Ap o)) 0 2 true K = K (.vec 2 [.i .i64 o.id.1, .i .u32 o.id.2]) [] := Ali _ _ o K
theorem Jo (o : Obj) (K : KK) : LoadK (some (Ap o)) 3 2 true K = K (.vec 2 [.i .i64 o.last.1, .i .u32 o.last.2]) [] := Adw _ _ o K
theorem Pg (o : Obj) (K : KK) : LoadK (some (Ap o)) 6 8 true K = K (.vec 8 (vE o.seen)) [] := Adv _ _ o K
theorem E6 (o : Obj) (K : KK) : LoadK (some (Ap o)) 2 1 false K = K (.pv (.b o.dir)) [] := Aga _ _ o K
theorem Fm (o : Obj) (K : KK) : LoadK (some (Ap o)) 14 1 false K = K (.pv (.sl false 11 (o.vers.map Bd))) [] := Adu _ _ o K
theorem Gc (o : Obj) (K : KK) : LoadK (some (Ap o)) 0 15 true K = K (.vec 15 (Ap o)) [] := Awv _ _ o K
theorem Vr (o : Obj) (i : Bn) : splice (Ap o) 3 ([.i .i64 i.1, .i .u32 i.2]) = Ap { o with last := i } := by
 obtain ⟨i, b, l, n, s, v⟩ := o;simp only [splice, Ap, Fl, vE, Cm]; rfl
theorem Vq (o : Obj) (s : List UInt8) : splice (Ap o) 5 ([.s s]) = Ap { o with name := s } := by
 obtain ⟨i, b, l, n, s, v⟩ := o;simp only [splice, Ap, Fl, vE, Cm]; rfl
theorem Vp (o : Obj) (v : Vc) : splice (Ap o) 6 (vE v) = Ap { o with seen := v } := by
 obtain ⟨i, b, l, n, s, v⟩ := o;simp only [splice, Ap, Fl, vE, Cm]; rfl
theorem Aci (o : Obj) (f : Bool) (z : Nat) (l : List Ver) : splice (Ap o) 14 ([.sl f z (l.map Bd)]) = Fl f z { o with vers := l } := by
 obtain ⟨i, b, l, n, s, v⟩ := o;simp only [splice, Ap, Fl, vE, Cm]; rfl
def obN (o : Obj) : Ent := ⟨o.id, (0, 0), [], (0, 0), fun _ => 0⟩
def Eh (l : List Obj) : Prop := Dq (l.map obN)
def Bs (l : List Obj) (i : Bn) : Nat := Fx (l.map obN) i
def isO (l : List Obj) (i : Bn) : Bool := Qp (l.map obN) i
structure St where
 known : Vc
 objs : List Obj
 ents : List Ent
 wards : Nat → Int
 ret : Nat → Bool
def A2 (s : St) (x y : SV) : List SV := [.vec 8 (vE s.known), x, y, .vec 8 (iE s.wards), .vec 8 (wE s.ret)]
def A6 (s : St) : List SV := A2 s (.pv (.sl false 15 (s.objs.map Ap))) (.pv (.sl false 15 (s.ents.map Bp)))
def st0 : St := ⟨fun _ => 0, [], [], fun _ => 0, fun _ => false⟩
theorem Ui {s : St} {f g : Bool} {y z : Nat} {es fs : List (List PV)} (hy : es = [] ∨ y = 15) (hz : fs = [] ∨ z = 15) (he : PImpR es (s.objs.map Ap)) (hf : PImpR fs (s.ents.map Bp)) : Imp (.agg (A2 s (.pv (.sl f y es)) (.pv (.sl g z fs)))) (.agg (A6 s)) :=
 Ws ⟨⟨Imp.refl _, rfl⟩, ⟨Su (G4 (by simp) hy he), rfl⟩, ⟨Su (G4 (by simp) hz hf), rfl⟩, ⟨Imp.refl _, rfl⟩, ⟨Imp.refl _, rfl⟩, trivial⟩
theorem Vz : Imp (.agg [.vec 8 (List.replicate 8 (.i .u32 0)), .pv (.sl true 0 []), .pv (.sl true 0 []), .vec 8 (List.replicate 8 (.i .i64 0)), .vec 8 (List.replicate 8 (.b false))]) (.agg (A6 st0)) :=
 Ui (s := st0) (.inl rfl) (.inl rfl) trivial trivial
theorem A1n {m n lo hi : Nat} {es fs : List (List PV)} {h} (hm : h m = some (.row 15 fs)) (hn : h n = some (.row 15 es)) (hne : m ≠ n) (hfs : fs ≠ []) (hes : es ≠ []) (hlt : lo < hi) : Zp Tryz.prog 153 [.os m, .ov n 15 lo hi] h (.pv (.b false)) := by
 intro F N ρ s a w hR hh vs hc;simp only [ConcL] at hc;obtain ⟨v, us, rfl, hv, u, us', rfl, hu, rfl⟩ := hc;have hsm := (hh m (by simp [A4, tn])).trans hm;have hsn := (hh n (by simp [A4, tn])).trans hn;refine ⟨.bool false, ?_, Ez⟩;rw [run_callFunc_extern (fn := (Tryz.prog.funcs[153]?).getD default) (by kernel_rfl) (by kernel_rfl) (by kernel_rfl) (by kernel_rfl) (e := Extern.SlicesOverlaps.overlaps #[43, 43] #[4]) (by kernel_rfl)];rw [Jk (tS := 43) (e := 116) (by kernel_rfl) (by kernel_rfl) (by decide) hR hsm hsn hne hfs hes hlt hv hu];rfl
set_option maxHeartbeats 4000000 in
theorem Wb (es : List (List PV)) (cs : List PV) (i : Nat) (hi : i ≤ es.length) (hb : es.length ≤ 1000) (hes : ∀ c ∈ es, c.length = 15) (hcs : cs.length = 15) {h d} (h1 : h 900 = some (.row 15 es)) (h2 : h 901 = some (.row 15 [cs])) : FunOk Tryz.prog 137 [.os 900, .pv (.i .i64 i), .os 901] h d (.os d) [.del 900, .del 901, .new d (.row 15 (es.take i ++ cs :: es.drop i))] := by
 refine Abf Af fn137 (by simp) rfl fun F => ?_;simp only [Cy];by_cases he : i = es.length
 · subst he;have e1 : es.take es.length ++ cs :: es.drop es.length = es ++ [cs] := by simp
   rw [e1];simp (disch := omega) only [ir137, h1, h2, go_sem]
 · have hne : es ≠ [] := by intro e; subst e; simp at hi; exact he (by simpa using hi)
   simp (disch := omega) only [ir137, h1, h2, go_sem];intro c hc;by_cases hcap : c < es.length + 1
   · have hp : ((c : Int) < (es.length : Int) + ((1 : Nat) : Int)) = True := eq_true (by omega);have ek : ((es.length : Int) + ((1 : Nat) : Int) - (i : Int)).toNat = es.length + 1 - i := by omega
     (try simp only [Ch, Cg, Cf, Ce, Cd, Cc, Cb, Ca]); simp (disch := omega) only [hp, ek, go_sem]
     generalize hT : List.take i es ++ List.replicate (es.length + 1 - i) _ = T;have hTl : T.length = es.length + 1 := by rw [← hT]; simp; omega
     have t1 : T.take i = es.take i := by
      rw [← hT, List.take_append_of_le_length (by simp; omega), List.take_take, Nat.min_self]
     have hi' : (es.take i).length = i := by simp; omega
     have m1 : min 1 (es.length + 1 - i) = 1 := by omega
     have m2 : [cs].take (es.length + 1 - i) = [cs] := List.take_of_length_le (by simp; omega);have hU : (es.take i ++ [cs] ++ T.drop (i + 1)).length = es.length + 1 := by simp [hTl]; omega
     have e1 : ((i : Int) + ((1 : Nat) : Int)).toNat = i + 1 := by omega
     have u1 : (es.take i ++ [cs] ++ T.drop (i + 1)).take (i + 1) = es.take i ++ [cs] := by
      rw [List.take_append_of_le_length (by simp; omega)];exact List.take_of_length_le (by simp; omega)
     have u2 : (es.take es.length).drop i = es.drop i := by rw [List.take_length]
     have u3 : min (es.drop i).length (es.length + 1 - (i + 1)) = es.length - i := by simp
     have u4 : (es.drop i).take (es.length + 1 - (i + 1)) = es.drop i := List.take_of_length_le (by simp);have u5 : (es.take i ++ [cs] ++ T.drop (i + 1)).drop (i + 1 + (es.length - i)) = [] := List.drop_of_length_le (by rw [hU]; omega);have u6 : es.take i ++ cs :: es.drop i = es.take i ++ [cs] ++ es.drop i := by simp
     simp only [hTl, t1, m1, m2, e1, List.length_singleton];simp only [hU, u1, u2, u3, u4, u5, u6, List.append_nil];exact ⟨by omega, by omega, trivial⟩
   · have hp : ((c : Int) < (es.length : Int) + ((1 : Nat) : Int)) = False := eq_false (by omega)
     (try simp only [Ch, Cg, Cf, Ce, Cd, Cc, Cb, Ca]); simp (disch := omega) only [hp, go_sem]
     intro g hg hgs;have hg1 : g.length = 1 := by omega
     have e1 : ((i : Int) + ((1 : Nat) : Int)).toNat = i + 1 := by omega
     have hE : (es ++ g).length = es.length + 1 := by simp [hg1]
     refine ⟨by omega, ?_⟩;rw [e1];refine Q8 (A1n (es := es ++ g) (fs := [cs]) rfl rfl (by decide) (by simp) (by simp [hne]) (by omega)) ?_;have v1 : ((es ++ g).take (es ++ g).length).drop i = (es ++ g).drop i := by rw [List.take_length]
     have v2 : min ((es ++ g).drop i).length ((es ++ g).length - (i + 1)) = es.length - i := by simp [hg1]; omega
     have v3 : ((es ++ g).drop i).take ((es ++ g).length - (i + 1)) = es.drop i := by
      rw [hE, List.drop_append_of_le_length hi, show es.length + 1 - (i + 1) = (es.drop i).length from by simp];exact List.take_left
     have v4 : (es ++ g).drop (i + 1 + (es.length - i)) = [] := List.drop_of_length_le (by omega);have v5 : ((es ++ g).take (i + 1) ++ es.drop i).length = es.length + 1 := by simp [hg1]; omega
     have v6 : ((es ++ g).take (i + 1) ++ es.drop i).take i = es.take i := by
      rw [List.take_append_of_le_length (by simp; omega), List.take_take, Nat.min_eq_left (by omega), List.take_append_of_le_length hi]
     have v7 : ((es ++ g).take (i + 1) ++ es.drop i).drop (i + 1) = es.drop i := by
      rw [List.drop_append_of_le_length (by simp; omega), List.drop_of_length_le (by simp; omega), List.nil_append]
     have m1 : min 1 (es.length + 1 - i) = 1 := by omega
     have m2 : [cs].take (es.length + 1 - i) = [cs] := List.take_of_length_le (by simp; omega);have u6 : es.take i ++ cs :: es.drop i = es.take i ++ [cs] ++ es.drop i := by simp
     simp (disch := omega) only [e1, v1, v2, v3, v4, v5, v6, v7, m1, m2, u6, go_sem]
theorem Apu {m n : Nat} (es : List (List PV)) (cs : List PV) (i : Nat) (hi : i ≤ es.length) (hb : es.length ≤ 1000) (hes : ∀ c ∈ es, c.length = 15) (hcs : cs.length = 15) (hmn : m ≠ n) (hm : m < 900) (hn : n < 900) {h d} (hd : d ≠ m ∧ d ≠ n ∧ d < 900) (h1 : h m = some (.row 15 es)) (h2 : h n = some (.row 15 [cs])) : FunOk Tryz.prog 137 [.os m, .pv (.i .i64 i), .os n] h d (.os d) [.del m, .del n, .new d (.row 15 (es.take i ++ cs :: es.drop i))] := by
 have hπ := Ah1 (a := 900) (m := m) (b := 901) (n := n) (by omega) (by omega) (by omega) hmn;have e1 : Zy 900 m 901 n 900 = m := by unfold Zy; simp
 have e2 : Zy 900 m 901 n 901 = n := by unfold Zy; repeat' split <;> (try omega)
 have e3 : Zy 900 m 901 n d = d := by unfold Zy; repeat' split <;> (try omega)
 have := (Wb es cs i hi hb hes hcs (h := fun k => (h (Zy 900 m 901 n k))) (d := d) (by rw [← h1, e1]) (by rw [← h2, e2])).rn (π := Zy 900 m 901 n) hπ (d' := d);simp only [SV.rnL, SV.rn, HU.rn, Blk.rn, List.map_cons, List.map_nil, e1, e2, e3] at this;refine this.at fun k hk => ?_;simp only [A4, tn, List.append_nil, List.nil_append, List.mem_append, List.mem_singleton] at hk;simp only [hπ];rcases hk with rfl | rfl
 · rw [h1]; rfl
 · rw [h2]; rfl
theorem Aqc (x : Obj) (b : Bn) {h d} : FunOk Tryz.prog 152 [.vec 15 (Ap x), .vec 2 [.i .i64 b.1, .i .u32 b.2]] h d (.pv (.i .i64 (Iy x.id b))) [] := by
 refine Ao Af fn152 (by simp) rfl rfl fun F => ?_;simp (disch := omega) only [ir152, H9, go_sem];refine Aa (Mt _ _ _ _) ?_;by_cases h1 : Ck x.id.1 x.id.2 b.1 b.2 = true
 · have e : Iy x.id b = -1 := if_pos h1;simp (disch := omega) only [h1, e, go_sem]
 · have h1' : Ck x.id.1 x.id.2 b.1 b.2 = false := by simpa using h1
   simp (disch := omega) only [h1', H9, go_sem];refine Aa (Mt _ _ _ _) ?_;by_cases h2 : Ck b.1 b.2 x.id.1 x.id.2 = true
   · have e : Iy x.id b = 1 := by unfold Iy; rw [if_neg h1, if_pos h2]
     simp (disch := omega) only [h2, e, go_sem]
   · have h2' : Ck b.1 b.2 x.id.1 x.id.2 = false := by simpa using h2
     have e : Iy x.id b = 0 := by unfold Iy; rw [if_neg h1, if_neg h2]
     simp (disch := omega) only [h2', e, go_sem]
theorem Aiv {l : List Obj} {j : Nat} {y : Ent} (h : (l.map obN)[j]? = some y) : ∃ o, l[j]? = some o ∧ y.id = o.id := by
 rw [List.getElem?_map] at h;obtain ⟨o, h1, h2⟩ := Option.map_eq_some_iff.1 h;exact ⟨o, h1, by rw [← h2]; rfl⟩
theorem Uw {l : List Obj} {j : Nat} {o : Obj} (h : l[j]? = some o) : (l.map obN)[j]? = some (obN o) := by rw [List.getElem?_map, h]; rfl
theorem Kq {l : List Obj} (hs : Eh l) {j m : Nat} {x v : Obj} (hj : l[j]? = some x) (hm : l[m]? = some v) (h : j < m) : Hz x.id v.id = true := Vu (l := l.map obN) hs (Uw hj) (Uw hm) h
theorem Avw {l : List Obj} {i : Bn} {k : Nat} (hk : k ≤ l.length) (h1 : ∀ j x, j < k → l[j]? = some x → Hz x.id i = true) (h2 : ∀ x, l[k]? = some x → ¬ Hz x.id i = true) : Bs l i = k :=
 Aid (l := l.map obN) (by simpa using hk) (fun j x hj hx => by
  obtain ⟨o, h3, h4⟩ := Aiv hx;rw [h4]; exact h1 j o hj h3) fun x hx => by
  obtain ⟨o, h3, h4⟩ := Aiv hx;rw [h4]; exact h2 o h3
theorem Lj (l : List Obj) (i : Bn) : Bs l i ≤ l.length := by have := Aam (l.map obN) i; simpa [Bs] using this
theorem Qo {l : List Obj} (hs : Eh l) (i : Bn) : isO l i = match l[Bs l i]? with | some x => decide (x.id = i) | none => false := by
 have h := Qh (l := l.map obN) hs i;unfold isO Qp;rw [h];show _ = match l[Bs l i]? with | some x => decide (x.id = i) | none => false
 unfold Bs;cases hx : l[Fx (l.map obN) i]? with
 | none => rw [List.getElem?_map, hx]; rfl
 | some x =>
   rw [List.getElem?_map, hx];show (if x.id = i then some (obN x) else none).isSome = decide (x.id = i);by_cases e : x.id = i <;> simp [e]
theorem A2r {l : List Obj} (hs : Eh l) {i : Bn} (h : isO l i = true) : ∃ o, l[Bs l i]? = some o ∧ o.id = i := by
 rw [Qo hs] at h;cases hx : l[Bs l i]? with
 | none => rw [hx] at h; cases h
 | some x => rw [hx] at h; exact ⟨x, rfl, by simpa using h⟩
def Aab (f : Bool) (l : List Obj) (i : Bn) (p : Nat × Nat) : FS := mk [(9, .pv (.i .i64 p.1)), (10, .pv (.i .i64 p.2)), (8, .pv (.i .i64 l.length)), (0, .pv (.sl f 15 (l.map Ap))), (2, .fn (.func 152) []), (4, .p 4 0)] [(4, some (.var (.vec 2 [.i .i64 i.1, .i .u32 i.2])))]
set_option maxHeartbeats 1000000 in
theorem A1u {x : SV} {f : Bool} {l : List Obj} (i : Bn) {h d} (hx : C2 h [x, .vec 2 [.i .i64 i.1, .i .u32 i.2], .fn (.func 152) []] = [.pv (.sl f 15 (l.map Ap)), .vec 2 [.i .i64 i.1, .i .u32 i.2], .fn (.func 152) []]) (hl : Bf [x, .vec 2 [.i .i64 i.1, .i .u32 i.2], .fn (.func 152) []] = true) (hs : Eh l) (hn : l.length ≤ 1000) :
 FunOk Tryz.prog 151 [x, .vec 2 [.i .i64 i.1, .i .u32 i.2], .fn (.func 152) []] h d (.tup [.pv (.i .i64 (Bs l i)), .pv (.b (isO l i))]) [] := by
 refine Db Af fn151 (by simp) hl rfl fun F => ?_;rw [hx];simp (disch := omega) only [ir151, List.length_map, go_sem];refine A1 Af (Aab f l i) (fun p => p.1 ≤ p.2 ∧ p.2 ≤ l.length ∧ (∀ j x, j < p.1 → l[j]? = some x → Hz x.id i = true) ∧ ∀ j x, p.2 ≤ j → l[j]? = some x → ¬ Hz x.id i = true) (fun p => p.2 - p.1) (0, l.length) ⟨by simp, by simp, by simp, fun j x hj hx => by simp only at hj; rw [List.getElem?_eq_none hj] at hx; cases hx⟩ (Aj ?_ ?_) fun p hp => ?_
 · (try simp only [Ch, Cg, Cf, Ce, Cd, Cc, Cb, Ca]); simp (disch := omega) only [go_sem]
 · simp (disch := omega) only [go_sem]
 obtain ⟨a, b⟩ := p;obtain ⟨p1, p2, p3, p4⟩ := hp;simp only at p1 p2 p3 p4;by_cases hlt : a < b
 · have hm : (a + b) / 2 < l.length := by omega
   have hx : l[(a + b) / 2]? = some l[(a + b) / 2] := List.getElem?_eq_getElem hm;have he : (l.map Ap)[(a + b) / 2]? = some (Ap l[(a + b) / 2]) := by rw [List.getElem?_map, hx]; rfl
   have e1 : ((a : Int) + (b : Int)).fdiv (2 ^ min (Int.toNat 1) 64) = (((a + b) / 2 : Nat) : Int) := by
    rw [show (2 : Int) ^ min (Int.toNat 1) 64 = 2 from rfl, Int.fdiv_eq_ediv_of_nonneg _ (by omega)]; omega
   have hm1 : a ≤ (a + b) / 2 := by omega
   have hm2 : (a + b) / 2 < b := by omega
   generalize l[(a + b) / 2] = v at *;generalize (a + b) / 2 = m at *;simp (disch := omega) only [Aab, List.length_map, e1, he, Gc, go_sem];refine Aa (Aqc v i) ?_;by_cases hc : Hz v.id i = true
   · have e2 : (Iy v.id i < 0) = True := by rw [U2]; exact eq_true hc
     simp (disch := omega) only [e2, go_sem];refine Ad (x := (a, b)) (m + 1, b) _ _ rfl ⟨by show m + 1 ≤ b; omega, p2, fun j x hj hx' => ?_, p4⟩ (by show b - (m + 1) < b - a; omega) ?_ ?_
     · by_cases e : j = m
       · subst e; rw [hx] at hx'; cases hx'; exact hc
       · exact Gz (Kq hs hx' hx (by simp only at hj; omega)) hc
     · (try simp only [Ch, Cg, Cf, Ce, Cd, Cc, Cb, Ca]); simp (disch := omega) only [go_sem]
     · simp (disch := omega) only [go_sem]
   · have e2 : (Iy v.id i < 0) = False := by rw [U2]; exact eq_false hc
     simp (disch := omega) only [e2, go_sem];refine Ad (x := (a, b)) (a, m) _ _ rfl ⟨by show a ≤ m; omega, by show m ≤ _; omega, p3, fun j x hj hx' => ?_⟩ (by show m - a < b - a; omega) ?_ ?_
     · by_cases e : j = m
       · subst e; rw [hx] at hx'; cases hx'; exact hc
       · exact fun q => hc (Gz (Kq hs hx hx' (by simp only at hj; omega)) q)
     · (try simp only [Ch, Cg, Cf, Ce, Cd, Cc, Cb, Ca]); simp (disch := omega) only [go_sem]
     · simp (disch := omega) only [go_sem]
 · obtain rfl : a = b := by omega
   have hpos : Bs l i = a := Avw p2 p3 fun x hx' => p4 a x (Nat.le_refl a) hx';have hk := Qo hs i;rw [hpos] at hk;by_cases hal : a < l.length
   · have hx' : l[a]? = some l[a] := List.getElem?_eq_getElem hal;have he : (l.map Ap)[a]? = some (Ap l[a]) := by rw [List.getElem?_map, hx']; rfl
     rw [hx'] at hk;simp only at hk;generalize l[a] = v at *;simp (disch := omega) only [Aab, hal, he, Gc, List.length_map, go_sem];refine Aa (Aqc v i) ?_;by_cases hv : v.id = i
     · have e2 : (Iy v.id i = 0) = True := by rw [U3]; exact eq_true hv
       have e3 : isO l i = true := by rw [hk]; simp [hv]
       simp (disch := omega) only [e2, e3, hpos, go_sem]
     · have e2 : (Iy v.id i = 0) = False := by rw [U3]; exact eq_false hv
       have e3 : isO l i = false := by rw [hk]; simp [hv]
       simp (disch := omega) only [e2, e3, hpos, go_sem]
   · rw [List.getElem?_eq_none (by omega)] at hk;simp (disch := omega) only [Aab, hal, hpos, hk, go_sem]
theorem Mw {x : SV} {f : Bool} {l : List Obj} (i : Bn) {h d} (hx : C2 h [x, .vec 2 [.i .i64 i.1, .i .u32 i.2]] = [.pv (.sl f 15 (l.map Ap)), .vec 2 [.i .i64 i.1, .i .u32 i.2]]) (hl : Bf [x, .vec 2 [.i .i64 i.1, .i .u32 i.2]] = true) (hs : Eh l) (hn : l.length ≤ 1000) :
 FunOk Tryz.prog 136 [x, .vec 2 [.i .i64 i.1, .i .u32 i.2]] h d (.tup [.pv (.i .i64 (Bs l i)), .pv (.b (isO l i))]) [] := by
 refine Db Af fn136 (by simp) hl rfl fun F => ?_;rw [hx];simp (disch := omega) only [ir136, go_sem];refine Aa (A1u (l := l) i rfl rfl hs hn) ?_;simp (disch := omega) only [go_sem]
def Km (l : List Obj) (i : Bn) : Int := if i = (0, 0) then 0 else match l[Bs l i]? with
 | some o => if o.id = i then (if o.dir = true then 0 else 22) else 2
 | none => 2
theorem A3j {l : List Obj} (hs : Eh l) {i : Bn} (h : i ≠ (0, 0)) (k : isO l i = false) : Km l i = 2 := by
 unfold Km; rw [if_neg h];rw [Qo hs] at k;cases hx : l[Bs l i]? with
 | none => rfl
 | some x => rw [hx] at k; simp only at k ⊢; rw [if_neg (by simpa using k)]
theorem A3i {l : List Obj} {i : Bn} {o : Obj} (h : i ≠ (0, 0)) (k : l[Bs l i]? = some o) (ho : o.id = i) : Km l i = if o.dir = true then 0 else 22 := by
 unfold Km; rw [if_neg h, k]; simp only; rw [if_pos ho]
theorem Abz {i : Bn} (h : i = (0, 0)) : i.1 = 0 ∧ i.2 = 0 := by subst h; exact ⟨rfl, rfl⟩
theorem Apw {s : St} (i : Bn) {h d} (hs : Eh s.objs) (hn : s.objs.length ≤ 1000) : FunOk Tryz.prog 135 [.agg (A6 s), .vec 2 [.i .i64 i.1, .i .u32 i.2]] h d (.pv (.i .i64 (Km s.objs i))) [] := by
 refine Ao Af fn135 (by simp) rfl rfl fun F => ?_;by_cases h0 : i = (0, 0)
 · have e : Km s.objs i = 0 := if_pos h0;have hz : B0 i.1 i.2 = true := decide_eq_true (Abz h0);simp (disch := omega) only [ir135, A6, A2, Ag, Ar, Aq, hz, e, go_sem]
 · have hz : B0 i.1 i.2 = false := decide_eq_false fun e => h0 (Prod.ext e.1 e.2);simp (disch := omega) only [ir135, A6, A2, Ag, Ar, Aq, hz, go_sem];refine Aa (Mw (l := s.objs) i rfl rfl hs hn) ?_;by_cases hi : isO s.objs i = true
   · obtain ⟨o, h1, h2⟩ := A2r hs hi;have e := A3i h0 h1 h2;have hlt := (List.getElem?_eq_some_iff.1 h1).1;have he : (s.objs.map Ap)[Bs s.objs i]? = some (Ap o) := by rw [List.getElem?_map, h1]; rfl
     by_cases hd : o.dir = true
     · rw [if_pos hd] at e;simp (disch := omega) only [hi, List.length_map, he, E6, hd, e, go_sem]
     · rw [if_neg hd] at e;have hd' : o.dir = false := by simpa using hd
       simp (disch := omega) only [hi, List.length_map, he, E6, hd', e, go_sem]
   · have hi' : isO s.objs i = false := by simpa using hi
     have e := A3j hs h0 hi';simp (disch := omega) only [hi', e, go_sem]
theorem Ar9 {P : Program} (hm : P.follows .mixedOrders = true) {f N' : Nat} {rs : List Rv} {c : C} (hf : A8 P f = some (N', rs, c)) {args : List SV} {h : Nat → Option Blk} {d : Nat} {sz : Nat} {es : List (List PV)} {X : Nat → SV} (hlen : args.length ≤ N')
 (hargs : SV.closedL args = true) (hX : ∀ (V V' : View) (ρ ρ' : Nat → Value) (n d : Nat) (v : Value), View.le V V' → ρ' d = ρ n → Conc V ρ (X n) v → Conc V' ρ' (X d) v)
 (hrun : ∀ F, sx (T9 P F N') c (Oi rs fun y g => ∃ n, y = X n ∧ g n = some (.row sz es)) (mk (C8 0 args) [])) :
 FunOk P f args h d (X d) [.new d (.row sz es)] := by
 obtain ⟨h1, h2, h3⟩ := Cj hargs;refine ⟨Cp hf, fun F N ρ s a w hR hh vs hc => ?_⟩;refine Calls.mono (Dm hm hf (h := h) hlen h2 Jj (by rw [h3]; exact hrun) hR hh hc) fun e w' he => ?_;obtain ⟨v, rfl, hg, N'', ρ', s', a', y, hR', hy, n, rfl, hn⟩ := he;rw [h1, Ds] at hR' hy;obtain ⟨base, cap, g1, g2, g3, g4, g5⟩ := hR'.own n _ hn;have hown : ∀ b, Cr (ρ' n) = some b → w.heap.size ≤ b ∧ b < w'.heap.size := fun b hb => by
  have ho : Co ρ' s'.h b := ⟨n, _, hn, hb⟩
  exact ⟨(hR'.may b ho).resolve_right id, hR'.lt ho⟩
 have hnew := hR.adopt hg d (.row sz es) (ρ' n) hown fun _ => by
  refine ⟨base, cap, by rw [Az]; exact g1, g2, g3, g4, fun hcap => ?_⟩;obtain ⟨b, vs', ty, fr, k1, k2, k3, k4, k5, k6⟩ := g5 hcap;refine ⟨b, vs', ty, fr, k1, k2, k3, k4, k5, fun i c hi => (k6 i c hi).mono (Bj fun b' c' ho hc' => ⟨fun hb' => ?_, hc'⟩)⟩;rcases hb' with ⟨m, z, hm1, hm2⟩ | hb'
  · by_cases hmd : m = d
    · subst hmd;rw [Az] at hm2;exact ho (.inl ⟨n, _, hn, hm2⟩)
    · rw [Br hmd] at hm2;simp only [FS.hup, FS.seth, FS.kill, hmd, if_false] at hm1;obtain ⟨z', hz', _⟩ := Option.map_eq_some_iff.1 hm1;exact ho (.inr (.inl ⟨m, z', hz', hm2⟩))
  · exact ho (.inr (.inr hb'))
 refine ⟨v, _, rfl, hnew.1, hX _ _ _ _ _ _ _ (Bj fun b' c' ho hc' => ⟨fun hb' => ?_, hc'⟩) Az hy⟩;rcases hb' with ⟨m, z, hm1, hm2⟩ | hb'
 · by_cases hmd : m = d
   · subst hmd;rw [Az] at hm2;exact ho (.inl ⟨n, _, hn, hm2⟩)
   · rw [Br hmd] at hm2;simp only [FS.hup, FS.seth, FS.kill, hmd, if_false] at hm1;obtain ⟨z', hz', _⟩ := Option.map_eq_some_iff.1 hm1;exact ho (.inr (.inl ⟨m, z', hz', hm2⟩))
 · exact ho (.inr (.inr hb'))
theorem Ak1 {f : Bool} {z : Nat} {es : List (List PV)} {h d} (hz : es = [] ∨ z = 15) (hb : es.length ≤ 1000) : FunOk Tryz.prog 94 [.pv (.sl f z es)] h d (.pv (.sl false 15 es)) [] := by
 refine Qw Af fn94 (by simp) rfl fun F => ?_;simp (disch := omega) only [ir94, go_sem];intro b hb';cases b
 · simp (disch := omega) only [go_sem]
 · have he : es = [] := by
    cases es with
    | nil => rfl
    | cons c l => exact absurd (hb' (by simp)) (by simp)
   subst he
   (try simp only [Ch, Cg, Cf, Ce, Cd, Cc, Cb, Ca]); simp (disch := omega) only [go_sem]
   decide
theorem Ak0 {f : Bool} {z : Nat} {es : List (List PV)} {h d} (hz : es = [] ∨ z = 11) (hb : es.length ≤ 1000) : FunOk Tryz.prog 95 [.pv (.sl f z es)] h d (.pv (.sl false 11 es)) [] := by
 refine Qw Af fn95 (by simp) rfl fun F => ?_;simp (disch := omega) only [ir95, go_sem];intro b hb';cases b
 · simp (disch := omega) only [go_sem]
 · have he : es = [] := by
    cases es with
    | nil => rfl
    | cons c l => exact absurd (hb' (by simp)) (by simp)
   subst he
   (try simp only [Ch, Cg, Cf, Ce, Cd, Cc, Cb, Ca]); simp (disch := omega) only [go_sem]
   decide
theorem Aef {V V' : View} {ρ ρ' : Nat → Value} {n d : Nat} {a b : List SV} {v : Value} (hV : V.le V') (he : ρ' d = ρ n) (ha : SV.closedL a = true) (hb : SV.closedL b = true) (h : Conc V ρ (.agg (a ++ .os n :: b)) v) : Conc V' ρ' (.agg (a ++ .os d :: b)) v := by
 simp only [Conc] at h ⊢;obtain ⟨vs, rfl, hc⟩ := h;obtain ⟨va, vb, rfl, h1, h2⟩ := Ka hc;simp only [Cells] at h2;obtain ⟨u, ub, rfl, h3, h4, h5, h6⟩ := h2;refine ⟨_, rfl, L0 (Ec hV ha h1) ?_⟩;simp only [Cells];refine ⟨u, ub, rfl, ?_, h4, h5, Ec hV hb h6⟩;simp only [Conc] at h3 ⊢;rw [he]; exact h3
def cpS (k : Nat) : SV := if k = 0 then .pv (.sl true 0 []) else .os 40
def cpK (l : List Obj) (k : Nat) : Option Blk := if k = 0 then none else some (.row 15 ((l.take k).map Ap))
theorem As2 : cpS 0 = .pv (.sl true 0 []) := rfl
theorem Aji {k : Nat} (h : k ≠ 0) : cpS k = .os 40 := if_neg h
theorem As3 (l : List Obj) : cpK l 0 = none := rfl
theorem Ajj {l : List Obj} {k : Nat} (h : k ≠ 0) : cpK l k = some (.row 15 ((l.take k).map Ap)) := if_neg h
def Bt : SV := .agg [.vec 8 (List.replicate 8 (.i .u32 0)), .pv (.sl true 0 []), .pv (.sl true 0 []), .vec 8 (List.replicate 8 (.i .i64 0)), .vec 8 (List.replicate 8 (.b false))]
def E5 (s : St) : SV := .pv (.sl false 15 (s.ents.map Bp))
def Ava (s : St) (k : Nat) : FS := mk [(15, .pv (.i .i64 k)), (14, .pv (.i .i64 s.objs.length)), (13, .pv (.sl false 15 (s.objs.map Ap))), (3, .p 3 0), (2, .p 2 0)] [(3, some (.var (.agg (A2 s (cpS k) (E5 s))))), (2, some (.var Bt)), (40, cpK s.objs k)]
theorem C3 {α : Type} {l : List α} {k : Nat} {y : α} (h : l[k]? = some y) : l.take (k + 1) = l.take k ++ [y] := by
 rw [List.take_add_one, h]; rfl
theorem Ym (l : List Obj) : ∀ c ∈ l.map Ap, c.length = 15 := fun c hc => by
 obtain ⟨o, _, rfl⟩ := List.mem_map.1 hc;exact E2 o
set_option maxHeartbeats 4000000 in
theorem S4 {s : St} (hn : s.objs.length ≤ 1000) (hv : ∀ o ∈ s.objs, o.vers.length ≤ 1000) (he : s.ents.length ≤ 1000) {F : Fr} {R : SV → (Nat → Option Blk) → Prop}
 (h1 : s.objs = [] → ∀ h, R (.agg (A2 s (.pv (.sl true 0 [])) (E5 s))) h) (h2 : s.objs ≠ [] → ∀ h, h 40 = some (.row 15 (s.objs.map Ap)) → R (.agg (A2 s (.os 40) (E5 s))) h) :
 sx (T9 Tryz.prog F 31) ir53 (Oi [.c 2 26 true] R) (mk (C8 0 [.agg (A6 s)]) []) := by
 simp (disch := omega) only [ir53, A6, A2, go_sem];refine Aa (Ak1 (es := s.ents.map Bp) (.inr rfl) (by simpa using he)) ?_;simp (disch := omega) only [List.length_map, go_sem];refine A1 Af (Ava s) (fun k => k ≤ s.objs.length) (fun k => s.objs.length - k) 0 (by simp) (Aj ?_ ?_) fun k hk => ?_
 · simp (disch := omega) only [go_sem]
 · simp (disch := omega) only [As2, As3, A2, E5, Bt, go_sem]
 by_cases hlt : k < s.objs.length
 · have hx : s.objs[k]? = some s.objs[k] := List.getElem?_eq_getElem hlt;have hel : (s.objs.map Ap)[k]? = some (Ap s.objs[k]) := by rw [List.getElem?_map, hx]; rfl
   have ht := C3 hx;have hvk := hv _ (List.getElem_mem hlt);generalize s.objs[k] = o at *;have hsp : splice (Ap o) 14 [.sl false 11 (o.vers.map Bd)] = Ap o := Aci o false 11 o.vers;have hol := E2 o;have htm : (s.objs.take (k + 1)).map Ap = (s.objs.take k).map Ap ++ [Ap o] := by rw [ht]; simp
   have hkl : ((s.objs.take k).map Ap).length = k := by simp; omega
   simp (disch := omega) only [Ava, A2, List.length_map, hel, Gc, go_sem];simp (disch := omega) only [Fm, go_sem];refine Aa (Ak0 (es := o.vers.map Bd) (.inr rfl) (by simpa using hvk)) ?_;by_cases h0 : k = 0
   · subst h0;simp (disch := omega) only [hsp, As2, As3, Gc, hol, A2, E5, Bt, go_sem];have hS := Aji (k := 1) (by omega);have hK := Ajj (l := s.objs) (k := 1) (by omega);refine ⟨fun _ => trivial, (1 : Nat), by omega, by show _ - 1 < _ - 0; omega, D6 27 40 (by decide) rfl (Aj ?_ ?_)⟩
     · simp (disch := omega) only [go_sem]
     · simp (disch := omega) only [hS, hK, htm, A2, E5, Bt, go_sem];rfl
   · have hS := Aji h0;have hK := Ajj (l := s.objs) h0;simp (disch := omega) only [hsp, hS, hK, Gc, hol, A2, E5, Bt, hkl, go_sem];have hS' := Aji (k := k + 1) (by omega);have hK' := Ajj (l := s.objs) (k := k + 1) (by omega);refine ⟨k + 1, by omega, by omega, D6 27 40 (by decide) rfl (Aj ?_ ?_)⟩
     · simp (disch := omega) only [go_sem]
     · simp (disch := omega) only [hS', hK', htm, A2, E5, Bt, go_sem]
 · obtain rfl : k = s.objs.length := by omega
   by_cases h0 : s.objs = []
   · have := h1 h0;have e : s.objs.length = 0 := by rw [h0]; rfl
     simp (disch := omega) only [Ava, A2, e, As2, As3, E5, Bt, go_sem];exact this _
   · have e : s.objs.length ≠ 0 := fun e => h0 (List.eq_nil_of_length_eq_zero e);have hS := Aji e;have hK := Ajj (l := s.objs) e;simp (disch := omega) only [Ava, A2, hS, hK, E5, Bt, go_sem];exact h2 h0 _ (by simp [mk, lk])
theorem Al7 {P : Program} (hm : P.follows .mixedOrders = true) {f N' : Nat} {rs : List Rv} {c : C} (hf : A8 P f = some (N', rs, c)) {args : List SV} {h : Nat → Option Blk} {d : Nat} {sz : Nat} {es : List (List PV)} {l r : List SV} (hlen : args.length ≤ N')
 (hargs : SV.closedL args = true) (hl : SV.closedL l = true) (hr : SV.closedL r = true) (hrun : ∀ F, sx (T9 P F N') c (Oi rs fun y g => (∃ n, y = .agg (l ++ .os n :: r) ∧ g n = some (.row sz es)) ∨ ∃ z, y = .agg (l ++ .pv (.sl true z []) :: r) ∧ es = []) (mk (C8 0 args) [])) :
 FunOk P f args h d (.agg (l ++ .pv (.sl false sz es) :: r)) [] := by
 obtain ⟨h1, h2, h3⟩ := Cj hargs;refine ⟨Cp hf, fun F N ρ s a w hR hh vs hc => ?_⟩;refine Calls.mono (Dm hm hf (h := h) hlen h2 Jj (by rw [h3]; exact hrun) hR hh hc) fun e w' he => ?_;obtain ⟨v, rfl, hg, N'', ρ', s', a', y, hR', hy, hyy⟩ := he;rw [h1, Ds] at hR' hy;refine ⟨v, ρ, rfl, hR.grew hg, ?_⟩;have key : ∀ (x : SV), x.width = 1 → y = .agg (l ++ x :: r) → (∀ u, Conc (vw ⟨w, fun _ => False, F.out ρ s.h, fun _ => undef, []⟩ w' ρ' s') ρ' x u → PConc (vw F w' ρ s) (.sl false sz es) u) → Conc (vw F w' ρ (s.hup [])) ρ (.agg (l ++ .pv (.sl false sz es) :: r)) v := fun x hw e k => by
  subst e;simp only [Conc] at hy ⊢;obtain ⟨vs, rfl, hc⟩ := hy;obtain ⟨va, vb, rfl, g1, g2⟩ := Ka hc;simp only [Cells] at g2;obtain ⟨u, ub, rfl, g3, g4, g5, g6⟩ := g2;refine ⟨_, rfl, L0 (Ec (E0 hR') hl g1) ?_⟩;simp only [Cells];exact ⟨u, ub, rfl, by simp only [Conc]; exact k u g3, g4.trans hw, g5, Ec (E0 hR') hr g6⟩
 rcases hyy with ⟨n, e, hn⟩ | ⟨z, e, rfl⟩
 · refine key _ rfl e fun u hu => ?_;simp only [Conc] at hu;rw [hu.1]; exact V3 hR' hn
 · refine key _ rfl e fun u hu => ?_;simp only [Conc] at hu;exact (G4 (by simp) (.inl rfl) (.refl [])) _ _ (hu.mono (E0 hR'))
structure Fine (s : St) : Prop where
 on : s.objs.length ≤ 500
 ov : ∀ o ∈ s.objs, o.vers.length ≤ 500
 en : s.ents.length ≤ 500
theorem Ap6 {s : St} (hs : Fine s) {h d} : FunOk Tryz.prog 53 [.agg (A6 s)] h d (.agg (A2 s (.os d) (E5 s))) [.new d (.row 15 (s.objs.map Ap))] := by
 have a1 : s.objs.length ≤ 1000 := Nat.le_trans hs.on (by omega);have a2 : ∀ o ∈ s.objs, o.vers.length ≤ 1000 := fun o ho => Nat.le_trans (hs.ov o ho) (by omega);have a3 : s.ents.length ≤ 1000 := Nat.le_trans hs.en (by omega);by_cases h0 : s.objs = []
 · rw [h0];refine FunOk.nilos (a := [.vec 8 (vE s.known)]) (b := [E5 s, .vec 8 (iE s.wards), .vec 8 (wE s.ret)]) (z := 0) (sz := 15) ?_ rfl rfl (by omega);refine Ao Af fn53 (by simp) rfl rfl fun F => ?_;exact S4 a1 a2 a3 (fun _ _ => rfl) fun e => absurd h0 e
 · refine Ar9 (X := fun n => .agg (A2 s (.os n) (E5 s))) Af fn53 (by simp) rfl (fun V V' ρ ρ' n d v hV he hc => Aef (a := [.vec 8 (vE s.known)]) (b := [E5 s, .vec 8 (iE s.wards), .vec 8 (wE s.ret)]) hV he rfl rfl hc) fun F => ?_;exact S4 a1 a2 a3 (fun e => absurd e h0) fun _ h hh => ⟨40, rfl, hh⟩
theorem Yk {s : St} (hs : Fine s) {h d} : FunOk Tryz.prog 53 [.agg (A6 s)] h d (.agg (A6 s)) [] := by
 have a1 : s.objs.length ≤ 1000 := Nat.le_trans hs.on (by omega);have a2 : ∀ o ∈ s.objs, o.vers.length ≤ 1000 := fun o ho => Nat.le_trans (hs.ov o ho) (by omega);have a3 : s.ents.length ≤ 1000 := Nat.le_trans hs.en (by omega);refine Al7 (l := [.vec 8 (vE s.known)]) (r := [E5 s, .vec 8 (iE s.wards), .vec 8 (wE s.ret)]) Af fn53 (by simp) rfl rfl rfl fun F => ?_;exact S4 a1 a2 a3 (fun e h => .inr ⟨0, rfl, by rw [e]; rfl⟩) fun _ h hh => .inl ⟨40, rfl, hh⟩
def Ajq : List SV → List PV → Prop
 | [], cs => cs = []
 | .pv x :: l, cs => ∃ r, cs = x :: r ∧ Ajq l r
 | .vec n c :: l, cs => c.length = n ∧ ∃ r, cs = c ++ r ∧ Ajq l r
 | _ :: _, _ => False
theorem S5 {V : View} {ρ : Nat → Value} : ∀ {l : List SV} {cs : List PV} {vs : List Value}, Ajq l cs → PCells V cs vs → Cells V ρ l vs
 | [], cs, vs, h, hp => by
   have h : cs = [] := h;subst h;simp only [Cells];exact List.eq_nil_of_length_eq_zero hp.1.symm
 | .pv x :: l, cs, vs, h, hp => by
   obtain ⟨r, rfl, h⟩ := h;simp only [Cells];obtain ⟨v, hv, hx⟩ := hp.2 0 x rfl;cases vs with
   | nil => cases hv
   | cons u us =>
     have : u = v := by simpa using hv
     subst this;have hf : Aw u = [u] := by have := hx.one; cases u <;> simp_all [Aw, Ba]
     refine ⟨u, us, by rw [hf]; rfl, by simp only [Conc]; exact hx, by rw [hf]; rfl, fun c hc => ?_, S5 h ⟨by simpa using hp.1, fun j y hy => by simpa using hp.2 (j + 1) y (by simpa using hy)⟩⟩;rw [hf] at hc;rw [List.mem_singleton.1 hc];exact hx.one
 | .vec n c :: l, cs, vs, h, hp => by
   obtain ⟨hn, r, rfl, h⟩ := h;simp only [Cells];have hl : c.length + r.length = vs.length := by simpa using hp.1
   have hA : PCells V c (vs.take n) := ⟨by simp; omega, fun j y hy => by
    have hj := (List.getElem?_eq_some_iff.1 hy).1;obtain ⟨v, h1, h2⟩ := hp.2 j y (by rw [List.getElem?_append_left hj]; exact hy);exact ⟨v, by rw [List.getElem?_take_of_lt (by omega)]; exact h1, h2⟩⟩
   refine ⟨.agg ⟨vs.take n⟩, vs.drop n, (List.take_append_drop n vs).symm, by simp only [Conc]; exact ⟨_, rfl, by simp; omega, hA⟩, by simp [Aw, SV.width]; omega, fun x hx => hA.one x hx, S5 h ⟨by simp; omega, fun j y hy => by
    obtain ⟨v, h1, h2⟩ := hp.2 (n + j) y (by rw [List.getElem?_append_right (by omega)]; simpa [hn] using hy);exact ⟨v, by rw [List.getElem?_drop]; exact h1, h2⟩⟩⟩
 | .agg _ :: _, _, _, h, _ => h.elim
 | .tup _ :: _, _, _, h, _ => h.elim
 | .p _ _ :: _, _, _, h, _ => h.elim
 | .ps _ _ :: _, _, _, h, _ => h.elim
 | .pr _ _ _ _ :: _, _, _, h, _ => h.elim
 | .pi _ _ _ _ :: _, _, _, h, _ => h.elim
 | .os _ :: _, _, _, h, _ => h.elim
 | .ov _ _ _ _ :: _, _, _, h, _ => h.elim
 | .fn _ _ :: _, _, _, h, _ => h.elim
 | .dead :: _, _, _, h, _ => h.elim
theorem Aw9 {l : List SV} {cs : List PV} {n : Nat} (h : Ajq l cs) : Imp (.vec n cs) (.agg l) := by
 intro V ρ v hv;simp only [Conc] at hv ⊢;obtain ⟨vs, rfl, _, hp⟩ := hv;exact ⟨vs, rfl, S5 h hp⟩
def Ah3 (a b : Vc) (k : Nat) : FS := mk [(8, .pv (.i .i64 k)), (7, .vec 8 (vE a)), (4, .pv (.b false)), (3, .p 3 0)] [(3, some (.var (.vec 8 (vE b))))]
theorem Azg (a b : Vc) {h d} : FunOk Tryz.prog 58 [.vec 8 (vE a), .vec 8 (vE b)] h d (.pv (.b (decide (Rj a b)))) [] := by
 refine Ao Af fn58 (by simp) rfl rfl fun F => ?_;simp (disch := omega) only [ir58, go_sem];refine A1 Af (Ah3 a b) (fun k => k ≤ 8 ∧ ∀ i, i < k → a i ≤ b i) (fun k => 8 - k) 0 (by simp) (Aj ?_ ?_) fun k hk => ?_
 · simp (disch := omega) only [go_sem]
 · simp (disch := omega) only [go_sem]
 obtain ⟨hk, hle⟩ := hk;by_cases hlt : k < 8
 · by_cases hc : a k ≤ b k
   · simp (disch := omega) only [Ah3, go_sem];refine Ad (k + 1) _ _ rfl ⟨by omega, fun i hi => ?_⟩ (by omega) ?_ ?_
     · by_cases e : i = k
       · subst e; exact hc
       · exact hle i (by omega)
     · simp (disch := omega) only [go_sem]
     · simp (disch := omega) only [go_sem]
   · have hn : ¬ Rj a b := fun h => hc (h k hlt);simp (disch := omega) only [Ah3, hn, go_sem]
 · have hn : Rj a b := fun i hi => hle i (by omega);simp (disch := omega) only [Ah3, hn, go_sem]
theorem Uh (g : SlI) (h : g.ok) : Imp (.pv g.pv) (.pv (.sl g.f 2 (g.l.map Ed))) := Su (G4 id (h.imp (fun e => by rw [e]; rfl) id) (.refl _))
def Rt (r : Int) (q : Nat) (s : List UInt8) : Ver := ⟨r, q, s, fun _ => 0⟩
theorem Ahu (r : Int) (q : Nat) (s : List UInt8) : Imp (.agg [.vec 2 [.i .i64 r, .i .u32 q], .pv (.s s), .vec 8 (vE fun _ => 0)]) (.vec 11 (Bd (Rt r q s))) := Gl (by rfl) (G2 _)
theorem Av9 {l : List Ver} {g : SlI} {r : Int} {q : Nat} {s : List UInt8} {h d} (hg : g.ok) (hs : Cu l) (hn : l.length ≤ 900) (hbn : g.l.length ≤ 900) (hm : ¬ Dg l g.l) (ho : Bo l r q = none) :
 FunOk Tryz.prog 141 [.pv (.sl false 11 (l.map Bd)), .pv g.pv, .agg [.vec 2 [.i .i64 r, .i .u32 q], .pv (.s s), .vec 8 (vE fun _ => 0)]] h d (.tup [.pv (.sl false 11 ((Fe l g.l (Rt r q s)).map Bd)), .pv (.i .i64 0)]) [] := by
 refine FunOk.imp (args' := [.pv (.sl false 11 (l.map Bd)), .pv (.sl g.f 2 (g.l.map Ed)), .vec 11 (Bd (Rt r q s))]) ?_ ⟨Imp.refl _, Uh g hg, Ahu r q s, trivial⟩ (by simp [A4, tn]);refine Y4 Af fn141 (by simp) rfl rfl fun F => ?_;exact Ajp hs hn hbn (fun h => absurd h hm) (fun _ h => by
  have ho' : Bo l (Rt r q s).rep (Rt r q s).seq = none := ho;rw [ho'] at h; cases h) (fun _ _ g n hg => .inl ⟨n, rfl, hg⟩)
theorem Ade {l : List Ver} {g : SlI} {r : Int} {q : Nat} {s : List UInt8} {h d} (hg : g.ok) (hs : Cu l) (hn : l.length ≤ 900) (hbn : g.l.length ≤ 900) (hm : Dg l g.l) :
 FunOk Tryz.prog 141 [.pv (.sl false 11 (l.map Bd)), .pv g.pv, .agg [.vec 2 [.i .i64 r, .i .u32 q], .pv (.s s), .vec 8 (vE fun _ => 0)]] h d (.tup [.pv (.sl true 0 []), .pv (.i .i64 2)]) [] := by
 refine FunOk.imp (args' := [.pv (.sl false 11 (l.map Bd)), .pv (.sl g.f 2 (g.l.map Ed)), .vec 11 (Bd (Rt r q s))]) ?_ ⟨Imp.refl _, Uh g hg, Ahu r q s, trivial⟩ (by simp [A4, tn]);exact Af3 rfl rfl hs hn hbn hm
def Eg (e : Evt) : Bn := match e.base.l with
 | [] => (0, 0)
 | b :: _ => b
def E9 (l : List Ver) (e : Evt) : List UInt8 :=
 if e.kind = 5 then e.data
 else if e.kind = 4 then Oh (Dv l (Eg e).1 (Eg e).2).1 e.off.toNat
 else Ir (Dv l (Eg e).1 (Eg e).2).1 e.off.toNat e.data
structure FitsW (l : List Ver) (e : Evt) : Prop where
 k : e.kind = 3 ∨ e.kind = 4 ∨ e.kind = 5
 off : e.kind ≠ 5 → 0 ≤ e.off ∧ e.off ≤ 200
 len : e.kind = 3 → e.off + e.data.length ≤ 200
 data : ∀ v ∈ l, v.data.length ≤ 200
theorem Za {l : List Ver} (h : ∀ v ∈ l, v.data.length ≤ 200) (r : Int) (q : Nat) : (Dv l r q).1.length ≤ 200 := by
 unfold Dv;split
 · simp
 · split
   · rename_i v hv; exact h v (Y6 hv).1
   · simp
theorem Zb (l : List Ver) (r : Int) (q : Nat) : (Dv l r q).2 = 0 ∨ (Dv l r q).2 = 2 := by
 unfold Dv;split
 · exact .inl rfl
 · split
   · exact .inl rfl
   · exact .inr rfl
set_option maxHeartbeats 2000000 in
theorem Aip {l : List Ver} {e : Evt} (he : ev e) (hf : FitsW l e) (hs : Cu l) (hn : l.length ≤ 900) {h d} :
 FunOk Tryz.prog 140 [.pv (.sl false 11 (l.map Bd)), .vec 21 (Be e)] h d (if e.kind = 5 ∨ (Dv l (Eg e).1 (Eg e).2).2 = 0 then .tup [.pv (.s (E9 l e)), .pv (.i .i64 0)] else .tup [.pv (.s []), .pv (.i .i64 2)]) [] := by
 refine Ao Af fn140 (by simp) rfl (by split <;> rfl) fun F => ?_;by_cases h5 : e.kind = 5
 · rw [if_pos (.inl h5)];have hb : E9 l e = e.data := if_pos h5;simp (disch := omega) only [ir140, Ae, h5, G5, hb, go_sem]
 · have hz : (if e.kind = 5 ∨ (Dv l (Eg e).1 (Eg e).2).2 = 0 then (SV.tup [.pv (.s (E9 l e)), .pv (.i .i64 0)]) else .tup [.pv (.s []), .pv (.i .i64 2)]) = if (Dv l (Eg e).1 (Eg e).2).2 = 0 then (SV.tup [.pv (.s (E9 l e)), .pv (.i .i64 0)]) else .tup [.pv (.s []), .pv (.i .i64 2)] := by
    by_cases hd : (Dv l (Eg e).1 (Eg e).2).2 = 0
    · rw [if_pos (.inr hd), if_pos hd]
    · rw [if_neg (fun q => q.elim h5 hd), if_neg hd]
   rw [hz];have hoff := hf.off h5;have hdl := Za hf.data (Eg e).1 (Eg e).2;have hpv : e.base.pv = .sl e.base.f e.base.z (e.base.l.map Ed) := rfl;cases hbl : e.base.l with
   | nil =>
     obtain ⟨b, hb⟩ : ∃ b : Bn, b = (0, 0) := ⟨_, rfl⟩
     have hbi : Eg e = b := by unfold Eg; rw [hbl, hb]
     simp (disch := omega) only [ir140, Ae, h5, Fb, hpv, hbl, List.map_nil, go_sem];rw [hbi] at hdl ⊢;have hde := Zb l b.1 b.2;have hbv : E9 l e = if e.kind = 4 then Oh (Dv l b.1 b.2).1 e.off.toNat else Ir (Dv l b.1 b.2).1 e.off.toNat e.data := by unfold E9; rw [if_neg h5, hbi]
     refine Aa (FunOk.imp (Ap3 (l := l) b.1 b.2 rfl rfl hs (by omega)) ⟨Imp.refl _, by subst hb; exact Gl (by rfl) rfl, trivial⟩ (by simp [A4, tn])) ?_;generalize Dv l b.1 b.2 = w at *;by_cases hw : w.2 = 0
     · rw [if_pos hw];by_cases h4 : e.kind = 4
       · rw [if_pos h4] at hbv;have hc := K4 (data := w.1) (n := e.off) (by omega);simp (disch := omega) only [hw, Ae, h4, I6, go_sem];refine Aa (Azi w.1 e.off (by omega)) ?_;simp (disch := omega) only [hc, hbv, go_sem]
       · rw [if_neg h4] at hbv;have h3 : e.kind = 3 := by have := hf.k; omega
         have hl := hf.len h3;have hc := Jb (data := w.1) (off := e.off) (s := e.data) (by unfold D2; omega);simp (disch := omega) only [hw, Ae, h4, I6, G5, go_sem];refine Aa (Aii w.1 e.data e.off) ?_;simp (disch := omega) only [hc, hbv, go_sem]
     · rw [if_neg hw];have hw2 := hde.resolve_left hw;simp (disch := omega) only [hw2, go_sem]
   | cons b t =>
     have hbi : Eg e = b := by unfold Eg; rw [hbl]
     have hok : e.base.z = 2 := he.2.1.resolve_left (by rw [hbl]; simp);have h0 : (List.map Ed (b :: t))[0]? = some (Ed b) := rfl;have hpos : (0 : Int) < ((t.length : Int) + 1) := by omega
     simp (disch := omega) only [ir140, Ae, h5, Fb, hpv, hbl, hok, List.length_map, h0, Ev, go_sem];rw [hbi] at hdl ⊢;have hde := Zb l b.1 b.2;have hbv : E9 l e = if e.kind = 4 then Oh (Dv l b.1 b.2).1 e.off.toNat else Ir (Dv l b.1 b.2).1 e.off.toNat e.data := by unfold E9; rw [if_neg h5, hbi]
     refine Aa (FunOk.imp (Ap3 (l := l) b.1 b.2 rfl rfl hs (by omega)) ⟨Imp.refl _, Imp.refl _, trivial⟩ (by simp [A4, tn])) ?_;generalize Dv l b.1 b.2 = w at *;by_cases hw : w.2 = 0
     · rw [if_pos hw];by_cases h4 : e.kind = 4
       · rw [if_pos h4] at hbv;have hc := K4 (data := w.1) (n := e.off) (by omega);simp (disch := omega) only [hw, Ae, h4, I6, go_sem];refine Aa (Azi w.1 e.off (by omega)) ?_;simp (disch := omega) only [hc, hbv, go_sem]
       · rw [if_neg h4] at hbv;have h3 : e.kind = 3 := by have := hf.k; omega
         have hl := hf.len h3;have hc := Jb (data := w.1) (off := e.off) (s := e.data) (by unfold D2; omega);simp (disch := omega) only [hw, Ae, h4, I6, G5, go_sem];refine Aa (Aii w.1 e.data e.off) ?_;simp (disch := omega) only [hc, hbv, go_sem]
     · rw [if_neg hw];have hw2 := hde.resolve_left hw;simp (disch := omega) only [hw2, go_sem]
abbrev Ak (e : Evt) : Bn := (e.rep, e.seq)
abbrev Ax (e : Evt) : Bn := (e.orep, e.oseq)
abbrev G9 (e : Evt) : Bn := (e.drep, e.dseq)
theorem Yx {l : List Obj} (hs : Eh l) {i : Bn} {o : Obj} (h : l[Bs l i]? = some o) (ho : o.id = i) : isO l i = true := by
 rw [Qo hs, h]; simp [ho]
theorem Asz {l : List Ver} {e : Evt} (h : ¬ Dg l e.base.l) : (Dv l (Eg e).1 (Eg e).2).2 = 0 := by
 have key : ∀ b : Bn, (b = (0, 0) ∨ b ∈ e.base.l) → (Dv l b.1 b.2).2 = 0 := fun b hb => by
  by_cases hz : b.1 = 0 ∧ b.2 = 0
  · rw [Q5 hz]
  · cases hv : Bo l b.1 b.2 with
    | some v => rw [Ly hz hv]
    | none =>
      rcases hb with rfl | hb
      · exact absurd ⟨rfl, rfl⟩ hz
      · exact absurd ⟨b, hb, hv⟩ h
 refine key _ ?_;unfold Eg;cases e.base.l with
 | nil => exact .inl rfl
 | cons b t => exact .inr List.mem_cons_self
structure StOk (s : St) : Prop where
 fine : Fine s
 so : Eh s.objs
 se : Dq s.ents
structure VerOk (o : Obj) (e : Evt) : Prop where
 sv : Cu o.vers
 fw : FitsW o.vers e
 new : Bo o.vers e.rep e.seq = none
 bl : e.base.l.length ≤ 900
theorem B9 {rs : List Rv} {R : SV → FS → Prop} {s : FS} (h : Li s rs fun l => R (one l) s) : Xt rs R s := ⟨s, .same s, h⟩
theorem Qv {l : List Obj} {k : Nat} {o : Obj} (h : l[k]? = some o) : (l.map Ap).getD k [] = Ap o := by
 rw [List.getD_eq_getElem?_getD, List.getElem?_map, h]; rfl
def wrO (s : St) (e : Evt) (o : Obj) : List Obj := s.objs.set (Bs s.objs (Ax e)) { o with vers := Fe o.vers e.base.l (Rt e.rep e.seq (E9 o.vers e)) }
def I9 (s : St) : SV := .agg (A2 s (.os 38) (E5 s))
theorem D0 (s : St) : ∀ n ∈ tn (I9 s), n = 6 ∨ n = 38 := fun n hn => by
 simp [I9, A2, E5, tn, A4] at hn; exact .inr hn
set_option maxHeartbeats 4000000 in
theorem A5w {s : St} {e : Evt} {o : Obj} (hs : StOk s) (he : ev e) (ho : s.objs[Bs s.objs (Ax e)]? = some o) (hid : o.id = Ax e) (hd : o.dir = false) (hv : VerOk o e) (hm : ¬ Dg o.vers e.base.l) {h d}
 (hg : h 6 = some (.var (I9 s))) (h38 : h 38 = some (.row 15 (s.objs.map Ap))) :
 DeepOk Tryz.prog 106 [.p 6 0, .vec 21 (Be e)] h d (.pv (.i .i64 0)) [.new 38 (.row 15 ((wrO s e o).map Ap)), .upd 6 (.var (I9 s))] := by
 refine Eo Af fn106 (by simp) hg h38 (by decide) rfl (D0 s) fun F => ?_;have hk := hv.fw.k;have n8 : ¬ e.kind = 8 := by omega
 have n9 : ¬ e.kind = 9 := by omega
 have n1 : ¬ e.kind = 1 := by omega
 have n2 : ¬ e.kind = 2 := by omega
 have n6 : ¬ e.kind = 6 := by omega
 have n7 : ¬ e.kind = 7 := by omega
 have hi := Yx hs.so ho hid;have hlt := (List.getElem?_eq_some_iff.1 ho).1;have hel : (s.objs.map Ap)[Bs s.objs (Ax e)]? = some (Ap o) := by rw [List.getElem?_map, ho]; rfl
 have hgd := Qv ho;have a1 := hs.fine.on;have a2 := hs.fine.ov o (List.mem_of_getElem? ho);have hb := Aip he hv.fw hv.sv (by omega) (h := fun _ => none) (d := 0);rw [if_pos (.inr (Asz hm))] at hb;simp (disch := omega) only [ir106, I9, A2, E5, Ae, n8, n9, n1, n2, A7, go_sem];refine Aa (Mw (l := s.objs) (Ax e) rfl rfl hs.so (by omega)) ?_;simp (disch := omega) only [hi, List.length_map, n6, n7, Ae, hel, E6, hd, Fm, Bh, go_sem];refine Aa (hb.at (by simp [A4, tn])) ?_;simp (disch := omega) only [hel, Fm, Fb, A5, go_sem];have hpv : e.base.pv = .sl e.base.f e.base.z (e.base.l.map Ed) := rfl;have hA := Av9 (g := e.base) (r := e.rep) (q := e.seq) (s := E9 o.vers e) he.2.1 hv.sv (by omega) hv.bl hm hv.new (h := fun _ => none) (d := 0);refine Aa (hA.at (by simp [A4, tn, hpv])) ?_;have hsp := Aci o false 11 (Fe o.vers e.base.l (Rt e.rep e.seq (E9 o.vers e)));have hset : (s.objs.map Ap).set (Bs s.objs (Ax e)) (Fl false 11 { o with vers := Fe o.vers e.base.l (Rt e.rep e.seq (E9 o.vers e)) }) = (wrO s e o).map Ap := by
  unfold wrO; rw [List.map_set]; rfl
 simp (disch := omega) only [hgd, hsp, List.length_map, hset, go_sem];refine B9 ?_;simp (disch := omega) only [go_sem]
def Zq (s : St) (e : Evt) (n : Int) : Prop := ∀ (h : Nat → Option Blk) (d : Nat), h 6 = some (.var (I9 s)) → h 38 = some (.row 15 (s.objs.map Ap)) → ∃ r X, DeepOk Tryz.prog 106 [.p 6 0, .vec 21 (Be e)] h d (.pv (.i .i64 n)) [.new 38 (.row 15 r), .upd 6 (.var X)]
set_option maxHeartbeats 4000000 in
theorem Af2 {s : St} {e : Evt} {o : Obj} (hs : StOk s) (he : ev e) (ho : s.objs[Bs s.objs (Ax e)]? = some o) (hid : o.id = Ax e) (hd : o.dir = false) (hv : VerOk o e) (hm : Dg o.vers e.base.l) : Zq s e 2 := by
 intro h d hg h38;have hk := hv.fw.k;have n8 : ¬ e.kind = 8 := by omega
 have n9 : ¬ e.kind = 9 := by omega
 have n1 : ¬ e.kind = 1 := by omega
 have n2 : ¬ e.kind = 2 := by omega
 have n6 : ¬ e.kind = 6 := by omega
 have n7 : ¬ e.kind = 7 := by omega
 have hi := Yx hs.so ho hid;have hlt := (List.getElem?_eq_some_iff.1 ho).1;have hel : (s.objs.map Ap)[Bs s.objs (Ax e)]? = some (Ap o) := by rw [List.getElem?_map, ho]; rfl
 have hgd := Qv ho;have a1 := hs.fine.on;have a2 := hs.fine.ov o (List.mem_of_getElem? ho);have hb := Aip he hv.fw hv.sv (by omega) (h := fun _ => none) (d := 0);by_cases hq : e.kind = 5 ∨ (Dv o.vers (Eg e).1 (Eg e).2).2 = 0
 · rw [if_pos hq] at hb;refine ⟨(s.objs.map Ap).set (Bs s.objs (Ax e)) (splice (Ap o) 14 [.sl true 0 []]), I9 s, Eo Af fn106 (by simp) hg h38 (by decide) rfl (D0 s) fun F => ?_⟩;simp (disch := omega) only [ir106, I9, A2, E5, Ae, n8, n9, n1, n2, A7, go_sem];refine Aa (Mw (l := s.objs) (Ax e) rfl rfl hs.so (by omega)) ?_;simp (disch := omega) only [hi, List.length_map, n6, n7, Ae, hel, E6, hd, Fm, Bh, go_sem];refine Aa (hb.at (by simp [A4, tn])) ?_;simp (disch := omega) only [hel, Fm, Fb, A5, go_sem];have hpv : e.base.pv = .sl e.base.f e.base.z (e.base.l.map Ed) := rfl;have hA := Ade (g := e.base) (r := e.rep) (q := e.seq) (s := E9 o.vers e) he.2.1 hv.sv (by omega) hv.bl hm (h := fun _ => none) (d := 0);refine Aa (hA.at (by simp [A4, tn, hpv])) ?_;simp (disch := omega) only [hgd, List.length_map, go_sem];refine B9 ?_;simp (disch := omega) only [go_sem]
 · rw [if_neg hq] at hb;refine ⟨s.objs.map Ap, I9 s, Eo Af fn106 (by simp) hg h38 (by decide) rfl (D0 s) fun F => ?_⟩;simp (disch := omega) only [ir106, I9, A2, E5, Ae, n8, n9, n1, n2, A7, go_sem];refine Aa (Mw (l := s.objs) (Ax e) rfl rfl hs.so (by omega)) ?_;simp (disch := omega) only [hi, List.length_map, n6, n7, Ae, hel, E6, hd, Fm, Bh, go_sem];refine Aa (hb.at (by simp [A4, tn])) ?_;simp (disch := omega) only [go_sem];refine B9 ?_;simp (disch := omega) only [go_sem]
theorem Apy {s : St} {e : Evt} {o : Obj} (hs : StOk s) (hk : e.kind = 3 ∨ e.kind = 4 ∨ e.kind = 5) (ho : s.objs[Bs s.objs (Ax e)]? = some o) (hid : o.id = Ax e) (hd : o.dir = true) : Zq s e 23 := by
 intro h d hg h38;have n8 : ¬ e.kind = 8 := by omega
 have n9 : ¬ e.kind = 9 := by omega
 have n1 : ¬ e.kind = 1 := by omega
 have n2 : ¬ e.kind = 2 := by omega
 have n6 : ¬ e.kind = 6 := by omega
 have n7 : ¬ e.kind = 7 := by omega
 have hi := Yx hs.so ho hid;have hlt := (List.getElem?_eq_some_iff.1 ho).1;have hel : (s.objs.map Ap)[Bs s.objs (Ax e)]? = some (Ap o) := by rw [List.getElem?_map, ho]; rfl
 have a1 := hs.fine.on;refine ⟨s.objs.map Ap, I9 s, Eo Af fn106 (by simp) hg h38 (by decide) rfl (D0 s) fun F => ?_⟩;simp (disch := omega) only [ir106, I9, A2, E5, Ae, n8, n9, n1, n2, A7, go_sem];refine Aa (Mw (l := s.objs) (Ax e) rfl rfl hs.so (by omega)) ?_;simp (disch := omega) only [hi, List.length_map, n6, n7, Ae, hel, E6, hd, Fm, Bh, go_sem];refine B9 ?_;simp (disch := omega) only [go_sem]
theorem Akx {s : St} {e : Evt} (hs : StOk s) (hk : e.kind = 3 ∨ e.kind = 4 ∨ e.kind = 5 ∨ e.kind = 6 ∨ e.kind = 7) (hi : isO s.objs (Ax e) = false) : Zq s e 2 := by
 intro h d hg h38;have n8 : ¬ e.kind = 8 := by omega
 have n9 : ¬ e.kind = 9 := by omega
 have n1 : ¬ e.kind = 1 := by omega
 have n2 : ¬ e.kind = 2 := by omega
 have a1 := hs.fine.on;refine ⟨s.objs.map Ap, I9 s, Eo Af fn106 (by simp) hg h38 (by decide) rfl (D0 s) fun F => ?_⟩;simp (disch := omega) only [ir106, I9, A2, E5, Ae, n8, n9, n1, n2, A7, go_sem];refine Aa (Mw (l := s.objs) (Ax e) rfl rfl hs.so (by omega)) ?_;simp (disch := omega) only [hi, go_sem];refine B9 ?_;simp (disch := omega) only [go_sem]
theorem Mu {s : St} (i : Bn) {h d} (hs : Eh s.objs) (hn : s.objs.length ≤ 1000) (h38 : h 38 = some (.row 15 (s.objs.map Ap))) :
 FunOk Tryz.prog 135 [.agg [.vec 8 (vE s.known), .os 38, .pv (.sl false 15 (s.ents.map Bp)), .vec 8 (iE s.wards), .vec 8 (wE s.ret)], .vec 2 [.i .i64 i.1, .i .u32 i.2]] h d (.pv (.i .i64 (Km s.objs i))) [] :=
 FunOk.lend (n := 38) (h' := h) (d' := d) h38 (by simp [A4, tn]) (by simp [A4, tn, SV.frz, SV.frzL]) rfl (Apw (s := s) i hs hn)
def Wh (e : Evt) : Obj := ⟨Ak e, decide (e.kind = 2), Ak e, e.name, fun _ => 0, []⟩
def Gb (e : Evt) (obj : Bn) : Ent := ⟨Ak e, G9 e, e.name, obj, fun _ => 0⟩
theorem Ax2 (e : Evt) (obj : Bn) : Imp (.agg [.vec 2 [.i .i64 e.rep, .i .u32 e.seq], .vec 2 [.i .i64 e.drep, .i .u32 e.dseq], .pv (.s e.name), .vec 2 [.i .i64 obj.1, .i .u32 obj.2], .vec 8 (vE fun _ => 0)]) (.vec 15 (Bp (Gb e obj))) := Gl (by rfl) (Dp _)
theorem Aax {l : List Ent} (e : Evt) (obj : Bn) {h d} (hs : Dq l) (hn : l.length ≤ 1000) :
 FunOk Tryz.prog 138 [.pv (.sl false 15 (l.map Bp)), .agg [.vec 2 [.i .i64 e.rep, .i .u32 e.seq], .vec 2 [.i .i64 e.drep, .i .u32 e.dseq], .pv (.s e.name), .vec 2 [.i .i64 obj.1, .i .u32 obj.2], .vec 8 (vE fun _ => 0)]] h d (.os d) [.new d (.row 15 ((Rc l (Gb e obj)).map Bp))] :=
 FunOk.imp (A1z (l := l) (Gb e obj) rfl rfl hs hn) ⟨Imp.refl _, Ax2 e obj, trivial⟩ (by simp [A4, tn])
set_option maxHeartbeats 4000000 in
theorem Akz {s : St} {e : Evt} (hs : StOk s) (hk : e.kind = 1 ∨ e.kind = 2) (hd : Km s.objs (G9 e) ≠ 0) : Zq s e (Km s.objs (G9 e)) := by
 intro h d hg h38;have n8 : ¬ e.kind = 8 := by omega
 have n9 : ¬ e.kind = 9 := by omega
 have a1 := hs.fine.on;refine ⟨s.objs.map Ap, I9 s, Eo Af fn106 (by simp) hg h38 (by decide) rfl (D0 s) fun F => ?_⟩;rcases hk with hk | hk
 all_goals
  simp (disch := omega) only [ir106, I9, A2, E5, Ae, n8, n9, hk, Dh, go_sem];refine Aa (Mu (s := s) (G9 e) hs.so (by omega) rfl) ?_;simp (disch := omega) only [hd, go_sem];refine B9 ?_;simp (disch := omega) only [go_sem]
def mkS (s : St) (e : Evt) : St := { s with objs := s.objs.take (Bs s.objs (Ak e)) ++ Wh e :: s.objs.drop (Bs s.objs (Ak e)), ents := Rc s.ents (Gb e (Ak e)) }
set_option maxHeartbeats 4000000 in
theorem A5x {s : St} {e : Evt} (hs : StOk s) (hk : e.kind = 1 ∨ e.kind = 2) (hd : Km s.objs (G9 e) = 0) {h d}
 (hg : h 6 = some (.var (I9 s))) (h38 : h 38 = some (.row 15 (s.objs.map Ap))) :
 DeepOk Tryz.prog 106 [.p 6 0, .vec 21 (Be e)] h d (.pv (.i .i64 0)) [.new 38 (.row 15 ((s.objs.map Ap).take (Bs s.objs (Ak e)) ++ Fl true 0 (Wh e) :: (s.objs.map Ap).drop (Bs s.objs (Ak e)))), .upd 6 (.var (I9 (mkS s e)))] := by
 have n8 : ¬ e.kind = 8 := by omega
 have n9 : ¬ e.kind = 9 := by omega
 have a1 := hs.fine.on;have a3 := hs.fine.en;refine Eo Af fn106 (by simp) hg h38 (by decide) rfl (D0 _) fun F => ?_;rcases hk with hk | hk
 · skip
   simp (disch := omega) only [ir106, I9, A2, E5, Ae, n8, n9, hk, Dh, go_sem];refine Aa (Mu (s := s) (G9 e) hs.so (by omega) rfl) ?_;simp (disch := omega) only [hd, A5, go_sem];refine Aa (Mw (l := s.objs) (Ak e) rfl rfl hs.so (by omega)) ?_;have hN : ∀ b, b = decide (e.kind = 2) → (PV.i .i64 e.rep :: .i .u32 e.seq :: .b b :: .i .i64 e.rep :: .i .u32 e.seq :: .s e.name :: ((vE fun _ => 0) ++ [.sl true 0 []])) = Fl true 0 (Wh e) := fun b hb => by subst hb; rfl
   have hN := hN false (by simp [hk]);have hl9 : ((vE fun _ => 0) ++ [PV.sl true 0 []]).length = 9 := by simp [Bi]
   simp (disch := omega) only [A5, Ae, hk, Dr, hN, hl9, El, go_sem];have hp := Lj s.objs (Ak e);refine Aa (Apu (m := 38) (n := 75) (s.objs.map Ap) (Fl true 0 (Wh e)) (Bs s.objs (Ak e)) (by simpa using hp) (by simp; omega) (Ym _) (El _ _ _) (by decide) (by decide) (by decide) (by decide) rfl rfl) ?_;simp (disch := omega) only [A5, Dh, Dr, go_sem];refine Aa (Aax (l := s.ents) e (Ak e) hs.se (by omega)) ?_;simp (disch := omega) only [go_sem];refine ⟨_, D7 93 rfl (D6 76 38 (by decide) rfl (.same _)), ?_⟩
   (try simp only [Ch, Cg, Cf, Ce, Cd, Cc, Cb, Ca]); simp (disch := omega) only [mkS, go_sem]
 · skip
   simp (disch := omega) only [ir106, I9, A2, E5, Ae, n8, n9, hk, Dh, go_sem];refine Aa (Mu (s := s) (G9 e) hs.so (by omega) rfl) ?_;simp (disch := omega) only [hd, A5, go_sem];refine Aa (Mw (l := s.objs) (Ak e) rfl rfl hs.so (by omega)) ?_;have hN : ∀ b, b = decide (e.kind = 2) → (PV.i .i64 e.rep :: .i .u32 e.seq :: .b b :: .i .i64 e.rep :: .i .u32 e.seq :: .s e.name :: ((vE fun _ => 0) ++ [.sl true 0 []])) = Fl true 0 (Wh e) := fun b hb => by subst hb; rfl
   have hN := hN true (by simp [hk]);have hl9 : ((vE fun _ => 0) ++ [PV.sl true 0 []]).length = 9 := by simp [Bi]
   simp (disch := omega) only [A5, Ae, hk, Dr, hN, hl9, El, go_sem];have hp := Lj s.objs (Ak e);refine Aa (Apu (m := 38) (n := 75) (s.objs.map Ap) (Fl true 0 (Wh e)) (Bs s.objs (Ak e)) (by simpa using hp) (by simp; omega) (Ym _) (El _ _ _) (by decide) (by decide) (by decide) (by decide) rfl rfl) ?_;simp (disch := omega) only [A5, Dh, Dr, go_sem];refine Aa (Aax (l := s.ents) e (Ak e) hs.se (by omega)) ?_;simp (disch := omega) only [go_sem];refine ⟨_, D7 93 rfl (D6 76 38 (by decide) rfl (.same _)), ?_⟩
   (try simp only [Ch, Cg, Cf, Ce, Cd, Cc, Cb, Ca]); simp (disch := omega) only [mkS, go_sem]
def H5 (s : St) (e : Evt) : St := { s with wards := Ea s.wards (e.rep - 1).toNat e.ward }
def Ob (s : St) (e : Evt) : St := { s with ret := Ea s.ret (e.rep - 1).toNat true }
theorem Vs (s : St) {k : Nat} (hk : k < 8) (n : Int) (a b : PV) : splice (vE s.known ++ a :: b :: (iE s.wards ++ wE s.ret)) (10 + k) [.i .i64 n] = vE s.known ++ a :: b :: (iE (Ea s.wards k n) ++ wE s.ret) := by
 rw [← X9 hk];simp only [splice, vE, iE, wE, Cm];have hk2 : k = 0 ∨ k = 1 ∨ k = 2 ∨ k = 3 ∨ k = 4 ∨ k = 5 ∨ k = 6 ∨ k = 7 := by omega
 rcases hk2 with rfl | rfl | rfl | rfl | rfl | rfl | rfl | rfl <;> rfl
theorem Aad (s : St) {k : Nat} (hk : k < 8) (n : Bool) (a b : PV) : splice (vE s.known ++ a :: b :: (iE s.wards ++ wE s.ret)) (18 + k) [.b n] = vE s.known ++ a :: b :: (iE s.wards ++ wE (Ea s.ret k n)) := by
 rw [← X8 hk];simp only [splice, vE, iE, wE, Cm];have hk2 : k = 0 ∨ k = 1 ∨ k = 2 ∨ k = 3 ∨ k = 4 ∨ k = 5 ∨ k = 6 ∨ k = 7 := by omega
 rcases hk2 with rfl | rfl | rfl | rfl | rfl | rfl | rfl | rfl <;> rfl
theorem R0 (s : St) : Imp (.vec 26 (vE s.known ++ .sl false 15 (s.objs.map Ap) :: .sl false 15 (s.ents.map Bp) :: (iE s.wards ++ wE s.ret))) (.agg (A6 s)) :=
 Aw9 ⟨Bi _, _, rfl, _, rfl, _, rfl, Sw _, _, rfl, Rs _, [], by simp, rfl⟩
theorem Aky {s : St} {e : Evt} (hk : e.kind = 8) (hr : 1 ≤ e.rep ∧ e.rep ≤ 8) {h d} (hg : h 6 = some (.var (.agg (A6 s)))) :
 FunOk Tryz.prog 106 [.p 6 0, .vec 21 (Be e)] h d (.pv (.i .i64 0)) [.upd 6 (.var (.agg (A6 (H5 s e))))] := by
 refine H0 (g := 6) Af fn106 (by simp) (by simp [A4, tn]) (by simp [A4, tn]) hg rfl (by simp [Blk.ptr, SV.kill]) rfl (fun _ => rfl) fun F => ?_;obtain ⟨k, hk8, hre⟩ : ∃ k : Nat, k < 8 ∧ e.rep - 1 = k := ⟨(e.rep - 1).toNat, by omega, by omega⟩
 have hS : H5 s e = { s with wards := Ea s.wards k e.ward } := by unfold H5; rw [hre]; rfl
 have hsp := Vs s hk8 e.ward (.sl false 15 (s.objs.map Ap)) (.sl false 15 (s.ents.map Bp));rw [hS];simp (disch := omega) only [ir106, A6, A2, Blk.ptr, Ae, hk, Da, Up, hre, hsp, go_sem];refine ⟨mk [(4, .pv (.i .i64 0)), (1000000, .p 6 0)] [(6, some (.var (.agg (A6 { s with wards := Ea s.wards k e.ward }))))], Aj ?_ ?_, ?_⟩
 · simp (disch := omega) only [go_sem]
 · simp (disch := omega) only [go_sem];exact ⟨R0 { s with wards := Ea s.wards k e.ward }, rfl⟩
 (try simp only [Ch, Cg, Cf, Ce, Cd, Cc, Cb, Ca]); simp (disch := omega) only [go_sem]
 exact ⟨6, rfl, rfl⟩
theorem Ap0 {s : St} {e : Evt} (hk : e.kind = 9) (hr : 1 ≤ e.rep ∧ e.rep ≤ 8) {h d} (hg : h 6 = some (.var (.agg (A6 s)))) :
 FunOk Tryz.prog 106 [.p 6 0, .vec 21 (Be e)] h d (.pv (.i .i64 0)) [.upd 6 (.var (.agg (A6 (Ob s e))))] := by
 refine H0 (g := 6) Af fn106 (by simp) (by simp [A4, tn]) (by simp [A4, tn]) hg rfl (by simp [Blk.ptr, SV.kill]) rfl (fun _ => rfl) fun F => ?_;obtain ⟨k, hk8, hre⟩ : ∃ k : Nat, k < 8 ∧ e.rep - 1 = k := ⟨(e.rep - 1).toNat, by omega, by omega⟩
 have hS : Ob s e = { s with ret := Ea s.ret k true } := by unfold Ob; rw [hre]; rfl
 have hsp := Aad s hk8 true (.sl false 15 (s.objs.map Ap)) (.sl false 15 (s.ents.map Bp));rw [hS];simp (disch := omega) only [ir106, A6, A2, Blk.ptr, Ae, hk, Da, hre, hsp, go_sem];refine ⟨mk [(4, .pv (.i .i64 0)), (1000000, .p 6 0)] [(6, some (.var (.agg (A6 { s with ret := Ea s.ret k true }))))], Aj ?_ ?_, ?_⟩
 · simp (disch := omega) only [go_sem]
 · simp (disch := omega) only [go_sem];exact ⟨R0 { s with ret := Ea s.ret k true }, rfl⟩
 (try simp only [Ch, Cg, Cf, Ce, Cd, Cc, Cb, Ca]); simp (disch := omega) only [go_sem]
 exact ⟨6, rfl, rfl⟩
theorem Ah9 (s : St) (es : List (List PV)) : Blk.frz 38 (.sl false 15 es) (.var (I9 s)) = .var (.agg (A2 s (.pv (.sl false 15 es)) (E5 s))) := by
 simp [I9, A2, E5, Blk.frz, SV.frz, SV.frzL]
theorem Apz {s : St} {e : Evt} (hk : e.kind = 8) (hr : 1 ≤ e.rep ∧ e.rep ≤ 8) {h d} (hg : h 6 = some (.var (I9 s))) (h38 : h 38 = some (.row 15 (s.objs.map Ap))) :
 DeepOk Tryz.prog 106 [.p 6 0, .vec 21 (Be e)] h d (.pv (.i .i64 0)) [.frz 38 (.sl false 15 (s.objs.map Ap)), .upd 6 (.var (.agg (A6 (H5 s e))))] :=
 DeepOk.frz (args' := [.p 6 0, .vec 21 (Be e)]) (h' := fun k => if k = 38 then none else (h k).map (Blk.frz 38 (.sl false 15 (s.objs.map Ap)))) (d' := d) h38 rfl (fun k _ => rfl) (Aky hk hr (by show (h 6).map _ = _; rw [hg, Option.map_some, Ah9]; rfl))
theorem Av5 {s : St} {e : Evt} (hk : e.kind = 9) (hr : 1 ≤ e.rep ∧ e.rep ≤ 8) {h d} (hg : h 6 = some (.var (I9 s))) (h38 : h 38 = some (.row 15 (s.objs.map Ap))) :
 DeepOk Tryz.prog 106 [.p 6 0, .vec 21 (Be e)] h d (.pv (.i .i64 0)) [.frz 38 (.sl false 15 (s.objs.map Ap)), .upd 6 (.var (.agg (A6 (Ob s e))))] :=
 DeepOk.frz (args' := [.p 6 0, .vec 21 (Be e)]) (h' := fun k => if k = 38 then none else (h k).map (Blk.frz 38 (.sl false 15 (s.objs.map Ap)))) (d' := d) h38 rfl (fun k _ => rfl) (Ap0 hk hr (by show (h 6).map _ = _; rw [hg, Option.map_some, Ah9]; rfl))
def Agl (l : List Bn) (i : Bn) : Int := match l.findIdx? (fun x => decide (i = x)) with
 | some k => k
 | none => -1
def Ah4 (f : Bool) (l : List Bn) (i : Bn) (k : Nat) : FS := mk [(8, .pv (.i .i64 k)), (7, .pv (.i .i64 l.length)), (0, .pv (.sl f 2 (l.map Ed))), (3, .p 3 0)] [(3, some (.var (.vec 2 [.i .i64 i.1, .i .u32 i.2])))]
set_option maxHeartbeats 1000000 in
theorem Apv {f : Bool} {l : List Bn} (i : Bn) {h d} (hn : l.length ≤ 1000) : FunOk Tryz.prog 172 [.pv (.sl f 2 (l.map Ed)), .vec 2 [.i .i64 i.1, .i .u32 i.2]] h d (.pv (.i .i64 (Agl l i))) [] := by
 refine Ao Af fn172 (by simp) rfl rfl fun F => ?_;simp (disch := omega) only [ir172, List.length_map, go_sem];refine A1 Af (Ah4 f l i) (fun k => k ≤ l.length ∧ ∀ j x, j < k → l[j]? = some x → i ≠ x) (fun k => l.length - k) 0 ⟨by simp, fun j x hj => absurd hj (Nat.not_lt_zero j)⟩ (Aj ?_ ?_) fun k hk => ?_
 · simp (disch := omega) only [go_sem]
 · simp (disch := omega) only [go_sem]
 obtain ⟨hk1, hk2⟩ := hk;by_cases hlt : k < l.length
 · have hx : l[k]? = some l[k] := List.getElem?_eq_getElem hlt;have he : (l.map Ed)[k]? = some (Ed l[k]) := by rw [List.getElem?_map, hx]; rfl
   generalize l[k] = b at *;by_cases hb : i = b
   · have hp := Fh hb;have e : Agl l i = k := by
      have : l.findIdx? (fun x => decide (i = x)) = some k := by
       rw [List.findIdx?_eq_some_iff_getElem];refine ⟨hlt, by rw [List.getElem?_eq_getElem hlt] at hx; cases hx; simpa using hb, fun j hj => ?_⟩;have := hk2 j _ hj (List.getElem?_eq_getElem (by omega));simpa using this
      unfold Agl; rw [this]
     simp (disch := omega) only [Ah4, List.length_map, he, Ev, Ag, hp, e, go_sem]
   · have hp := E7 hb;simp (disch := omega) only [Ah4, List.length_map, he, Ev, Ag, hp, go_sem];refine Ad (k + 1) _ _ rfl ⟨by omega, fun j x hj hjx => ?_⟩ (by omega) ?_ ?_
     · by_cases ej : j = k
       · subst ej; rw [hx] at hjx; cases hjx; exact hb
       · exact hk2 j x (by omega) hjx
     · simp (disch := omega) only [go_sem]
     · simp (disch := omega) only [go_sem]
 · obtain rfl : k = l.length := by omega
   have e : Agl l i = -1 := by
    have : l.findIdx? (fun x => decide (i = x)) = none := by
     rw [List.findIdx?_eq_none_iff];intro x hx;obtain ⟨j, hj⟩ := List.mem_iff_getElem?.1 hx;have := hk2 j x (List.getElem?_eq_some_iff.1 hj).1 hj;simpa using this
    unfold Agl; rw [this]
   simp (disch := omega) only [Ah4, e, go_sem]
theorem Arq (l : List Bn) (i : Bn) : decide (0 ≤ Agl l i) = decide (i ∈ l) := by
 unfold Agl;cases h : l.findIdx? (fun x => decide (i = x)) with
 | some k =>
   have := List.findIdx?_eq_some_iff_getElem.1 h;obtain ⟨h1, h2, _⟩ := this;have h3 : i = l[k] := by simpa using h2
   have : i ∈ l := by rw [h3]; exact List.getElem_mem h1
   simp only [this, decide_true, decide_eq_true_eq]; omega
 | none =>
   have h2 := List.findIdx?_eq_none_iff.1 h;have : ¬ i ∈ l := fun hm => by have := h2 i hm; simp at this
   simp only [this, decide_false, decide_eq_false_iff_not]; omega
theorem Tp (g : SlI) (i : Bn) (hg : g.ok) {h d} (hn : g.l.length ≤ 1000) : FunOk Tryz.prog 157 [.pv g.pv, .vec 2 [.i .i64 i.1, .i .u32 i.2]] h d (.pv (.b (decide (i ∈ g.l)))) [] := by
 refine FunOk.imp (args' := [.pv (.sl g.f 2 (g.l.map Ed)), .vec 2 [.i .i64 i.1, .i .u32 i.2]]) ?_ ⟨Uh g hg, Imp.refl _, trivial⟩ (by simp [A4, tn]);refine Ao Af fn157 (by simp) rfl rfl fun F => ?_;have e := Arq g.l i;simp (disch := omega) only [ir157, go_sem];refine Aa (Apv (l := g.l) i hn) ?_;simp (disch := omega) only [e, go_sem]
def En (e : Evt) (x : Ent) : Bool := decide (x.obj = Ax e) && decide (x.id ∈ e.gone.l)
def Fd (e : Evt) (l m : List Ent) : List Ent := m.foldl (fun a x => if En e x = true then killL a x.id (Ak e) else a) l
theorem Wv (e : Evt) (l m : List Ent) (x : Ent) : Fd e l (m ++ [x]) = if En e x = true then killL (Fd e l m) x.id (Ak e) else Fd e l m := by
 simp [Fd, List.foldl_append]
theorem Lr {e : Evt} {l : List Ent} (h : Dq l) : ∀ m : List Ent, Dq (Fd e l m) := fun m => by
 unfold Fd
 induction m generalizing l with
 | nil => exact h
 | cons x m ih =>
   simp only [List.foldl_cons];split
   · exact ih (Akd h _ _)
   · exact ih h
theorem Sy {e : Evt} {l : List Ent} : ∀ m : List Ent, (Fd e l m).length = l.length := fun m => by
 unfold Fd
 induction m generalizing l with
 | nil => rfl
 | cons x m ih =>
   simp only [List.foldl_cons];split
   · rw [ih]; exact Awt _ _ _
   · exact ih
def Ach (s : St) (e : Evt) (i k : Nat) : FS := mk [(27, .pv (.i .i64 k)), (26, .pv (.i .i64 s.ents.length)), (25, .pv (.sl false 15 (s.ents.map Bp))), (5, .p 5 0), (0, .p 6 0), (1, .pr 38 15 i 0), (1000000, .p 6 0)] [(5, some (.var (.vec 21 (Be e)))), (6, some (.var (.agg (A2 s (.os 38) (.pv (.sl false 15 ((Fd e s.ents (s.ents.take k)).map Bp))))))), (38, some (.row 15 (s.objs.map Ap)))]
theorem Aoy {α : Type} {l : List α} {i : Nat} {x : α} (h : l[i]? = some x) : l.set i x = l := by
 obtain ⟨h1, h2⟩ := List.getElem?_eq_some_iff.1 h;rw [← h2]; exact List.set_getElem_self h1
def Ts (s : St) (e : Evt) (i : Nat) (o : Obj) : St := { s with objs := s.objs.set i { o with seen := Cn o.seen (A9 e.dep e.rep e.seq) }, ents := Fd e s.ents s.ents }
set_option maxHeartbeats 4000000 in
theorem Afz {s : St} {e : Evt} {o : Obj} {i : Nat} (hs : StOk s) (he : ev e) (hk : e.kind = 6) (ho : s.objs[i]? = some o) {h d}
 (hg : h 6 = some (.var (I9 s))) (h38 : h 38 = some (.row 15 (s.objs.map Ap))) :
 DeepOk Tryz.prog 139 [.p 6 0, .pr 38 15 i 0, .vec 21 (Be e)] h d (.pv (.i .i64 0)) [.new 38 (.row 15 ((Ts s e i o).objs.map Ap)), .upd 6 (.var (I9 (Ts s e i o)))] := by
 refine Eo Af fn139 (by simp) hg h38 (by decide) rfl (D0 _) fun F => ?_;have hil := (List.getElem?_eq_some_iff.1 ho).1;have hel : (s.objs.map Ap)[i]? = some (Ap o) := by rw [List.getElem?_map, ho]; rfl
 have hgd := Qv ho;have a3 := hs.fine.en;simp (disch := omega) only [ir139, I9, A2, E5, Ae, hk, List.length_map, go_sem];refine A1 Af (Ach s e i) (fun k => k ≤ s.ents.length) (fun k => s.ents.length - k) 0 (by simp) (Aj ?_ ?_) fun k hk => ?_
 · simp (disch := omega) only [go_sem]
 · simp (disch := omega) only [A2, Fd, List.take_zero, List.foldl_nil, go_sem]
 by_cases hlt : k < s.ents.length
 · have hx : s.ents[k]? = some s.ents[k] := List.getElem?_eq_getElem hlt;have hel : (s.ents.map Bp)[k]? = some (Bp s.ents[k]) := by rw [List.getElem?_map, hx]; rfl
   have ht := C3 hx;have hsn := Wv e s.ents (s.ents.take k) s.ents[k];rw [← ht] at hsn;generalize s.ents[k] = x at *;have hel15 := Dp x;have hsoK := Lr (e := e) hs.se (s.ents.take k);have hlK := Sy (e := e) (l := s.ents) (s.ents.take k);by_cases h1 : x.obj = Ax e
   · have hp := Fh h1;have hpv : e.gone.pv = .sl e.gone.f e.gone.z (e.gone.l.map Ed) := rfl;simp (disch := omega) only [Ach, A2, List.length_map, hel, Fp, hel15, C4, A7, Bm, Ag, hp, F3, Di, go_sem];refine Aa (Tp e.gone x.id he.1 he.2.2.1) ?_;by_cases h2 : x.id ∈ e.gone.l
     · have hg : En e x = true := by unfold En; simp [h1, h2]
       rw [if_pos hg] at hsn;simp (disch := omega) only [h2, Di, A5, go_sem];refine Aa (Ain (l := Fd e s.ents (s.ents.take k)) x.id (Ak e) rfl rfl hsoK (by omega)) ?_;simp (disch := omega) only [go_sem];refine ⟨k + 1, by omega, by omega, D7 52 rfl (Aj ?_ ?_)⟩
       · simp (disch := omega) only [go_sem]
       · simp (disch := omega) only [A2, hsn, go_sem]
     · have hg : ¬ En e x = true := by unfold En; simp [h2]
       rw [if_neg hg] at hsn;simp (disch := omega) only [h2, go_sem];refine Ad (k + 1) _ _ rfl (by omega) (by omega) ?_ ?_
       · simp (disch := omega) only [go_sem]
       · simp (disch := omega) only [A2, hsn, go_sem]
   · have hp := E7 h1;have hg : ¬ En e x = true := by unfold En; simp [h1]
     rw [if_neg hg] at hsn;simp (disch := omega) only [Ach, A2, List.length_map, hel, Fp, hel15, C4, A7, Bm, Ag, hp, Di, go_sem];refine Ad (k + 1) _ _ rfl (by omega) (by omega) ?_ ?_
     · simp (disch := omega) only [go_sem]
     · simp (disch := omega) only [A2, hsn, go_sem]
 obtain rfl : k = s.ents.length := by omega
 have htk : s.ents.take s.ents.length = s.ents := List.take_length;simp (disch := omega) only [Ach, A2, htk, Ae, hk, hel, Pg, E4, A5, go_sem];refine Aa (Aaq e.dep e.rep e.seq) ?_;simp (disch := omega) only [go_sem];refine Aa (Af1 o.seen (A9 e.dep e.rep e.seq)) ?_;have hsp := Vp o (Cn o.seen (A9 e.dep e.rep e.seq));have hset : (s.objs.map Ap).set i (Ap { o with seen := Cn o.seen (A9 e.dep e.rep e.seq) }) = (Ts s e i o).objs.map Ap := by
  unfold Ts; rw [List.map_set]
 have hvl := Bi (Cn o.seen (A9 e.dep e.rep e.seq));simp (disch := omega) only [hgd, hsp, List.length_map, hset, go_sem];refine B9 ?_;simp (disch := omega) only [Ts, go_sem]
def Wj (e : Evt) (o : Obj) : Obj := if Ck o.last.1 o.last.2 e.rep e.seq = true then { o with last := Ak e, name := e.name } else o
def Mz (s : St) (e : Evt) (i : Nat) (o : Obj) : St := { s with objs := s.objs.set i (Wj e o), ents := Rc (Fd e s.ents s.ents) (Gb e (Ax e)) }
set_option maxHeartbeats 4000000 in
theorem Afy {s : St} {e : Evt} {o : Obj} {i : Nat} (hs : StOk s) (he : ev e) (hk : e.kind = 7) (hd : Km s.objs (G9 e) = 0) (ho : s.objs[i]? = some o) {h d}
 (hg : h 6 = some (.var (I9 s))) (h38 : h 38 = some (.row 15 (s.objs.map Ap))) :
 DeepOk Tryz.prog 139 [.p 6 0, .pr 38 15 i 0, .vec 21 (Be e)] h d (.pv (.i .i64 0)) [.new 38 (.row 15 ((Mz s e i o).objs.map Ap)), .upd 6 (.var (I9 (Mz s e i o)))] := by
 refine Eo Af fn139 (by simp) hg h38 (by decide) rfl (D0 _) fun F => ?_;have hil := (List.getElem?_eq_some_iff.1 ho).1;have hel : (s.objs.map Ap)[i]? = some (Ap o) := by rw [List.getElem?_map, ho]; rfl
 have hgd := Qv ho;have a1 := hs.fine.on;have a3 := hs.fine.en;simp (disch := omega) only [ir139, I9, A2, E5, Ae, hk, Dh, go_sem];refine Aa (Mu (s := s) (G9 e) hs.so (by omega) rfl) ?_;simp (disch := omega) only [hd, List.length_map, go_sem];refine A1 Af (Ach s e i) (fun k => k ≤ s.ents.length) (fun k => s.ents.length - k) 0 (by simp) (Aj ?_ ?_) fun k hk => ?_
 · simp (disch := omega) only [go_sem]
 · simp (disch := omega) only [A2, Fd, List.take_zero, List.foldl_nil, go_sem]
 by_cases hlt : k < s.ents.length
 · have hx : s.ents[k]? = some s.ents[k] := List.getElem?_eq_getElem hlt;have hel : (s.ents.map Bp)[k]? = some (Bp s.ents[k]) := by rw [List.getElem?_map, hx]; rfl
   have ht := C3 hx;have hsn := Wv e s.ents (s.ents.take k) s.ents[k];rw [← ht] at hsn;generalize s.ents[k] = x at *;have hel15 := Dp x;have hsoK := Lr (e := e) hs.se (s.ents.take k);have hlK := Sy (e := e) (l := s.ents) (s.ents.take k);by_cases h1 : x.obj = Ax e
   · have hp := Fh h1;have hpv : e.gone.pv = .sl e.gone.f e.gone.z (e.gone.l.map Ed) := rfl;simp (disch := omega) only [Ach, A2, List.length_map, hel, Fp, hel15, C4, A7, Bm, Ag, hp, F3, Di, go_sem];refine Aa (Tp e.gone x.id he.1 he.2.2.1) ?_;by_cases h2 : x.id ∈ e.gone.l
     · have hg : En e x = true := by unfold En; simp [h1, h2]
       rw [if_pos hg] at hsn;simp (disch := omega) only [h2, Di, A5, go_sem];refine Aa (Ain (l := Fd e s.ents (s.ents.take k)) x.id (Ak e) rfl rfl hsoK (by omega)) ?_;simp (disch := omega) only [go_sem];refine ⟨k + 1, by omega, by omega, D7 52 rfl (Aj ?_ ?_)⟩
       · simp (disch := omega) only [go_sem]
       · simp (disch := omega) only [A2, hsn, go_sem]
     · have hg : ¬ En e x = true := by unfold En; simp [h2]
       rw [if_neg hg] at hsn;simp (disch := omega) only [h2, go_sem];refine Ad (k + 1) _ _ rfl (by omega) (by omega) ?_ ?_
       · simp (disch := omega) only [go_sem]
       · simp (disch := omega) only [A2, hsn, go_sem]
   · have hp := E7 h1;have hg : ¬ En e x = true := by unfold En; simp [h1]
     rw [if_neg hg] at hsn;simp (disch := omega) only [Ach, A2, List.length_map, hel, Fp, hel15, C4, A7, Bm, Ag, hp, Di, go_sem];refine Ad (k + 1) _ _ rfl (by omega) (by omega) ?_ ?_
     · simp (disch := omega) only [go_sem]
     · simp (disch := omega) only [A2, hsn, go_sem]
 obtain rfl : k = s.ents.length := by omega
 have htk : s.ents.take s.ents.length = s.ents := List.take_length;have hsG := Lr (e := e) hs.se s.ents;have hlG := Sy (e := e) (l := s.ents) s.ents;simp (disch := omega) only [Ach, A2, htk, Ae, hk, A5, Dh, Dr, A7, go_sem];refine Aa (Aax (l := Fd e s.ents s.ents) e (Ax e) hsG (by omega)) ?_;simp (disch := omega) only [hel, Jo, A5, go_sem];refine Aa (Mt o.last.1 o.last.2 e.rep e.seq) ?_;by_cases hl : Ck o.last.1 o.last.2 e.rep e.seq = true
 · have hmo : Wj e o = { o with last := Ak e, name := e.name } := if_pos hl;have hsp := Vr o (Ak e);have hsp2 := Vq { o with last := Ak e } e.name;have hset : ((s.objs.map Ap).set i (Ap { o with last := Ak e })).set i (Ap { o with last := Ak e, name := e.name }) = (Mz s e i o).objs.map Ap := by
    unfold Mz; rw [List.set_set, List.map_set, hmo]
   have hgd2 : ((s.objs.map Ap).set i (Ap { o with last := Ak e })).getD i [] = Ap { o with last := Ak e } := by
    rw [List.getD_eq_getElem?_getD, List.getElem?_set_self (by simpa using hil)]; rfl
   simp (disch := omega) only [hl, go_sem];refine Rb ?_;simp (disch := omega) only [A5, Dr, hgd, hsp, List.length_map, List.length_set, hgd2, hsp2, hset, go_sem];refine ⟨_, D7 86 rfl (.same _), ?_⟩
   (try simp only [Ch, Cg, Cf, Ce, Cd, Cc, Cb, Ca]); simp (disch := omega) only [Mz, go_sem]
 · have hmo : Wj e o = o := if_neg hl;have hl' : Ck o.last.1 o.last.2 e.rep e.seq = false := by simpa using hl
   have hset : s.objs.map Ap = (Mz s e i o).objs.map Ap := by
    unfold Mz; rw [hmo];show _ = (s.objs.set i o).map Ap;rw [Aoy ho]
   simp (disch := omega) only [hl', go_sem];refine ⟨_, D7 86 rfl (.same _), ?_⟩
   (try simp only [Ch, Cg, Cf, Ce, Cd, Cc, Cb, Ca]); simp (disch := omega) only [Mz, go_sem]
   exact congrArg (fun q => some (Blk.row 15 q)) hset
theorem Afx {s : St} {e : Evt} {i : Nat} (hs : StOk s) (hk : e.kind = 7) (hd : Km s.objs (G9 e) ≠ 0) {h d}
 (hg : h 6 = some (.var (I9 s))) (h38 : h 38 = some (.row 15 (s.objs.map Ap))) :
 DeepOk Tryz.prog 139 [.p 6 0, .pr 38 15 i 0, .vec 21 (Be e)] h d (.pv (.i .i64 (Km s.objs (G9 e)))) [.new 38 (.row 15 (s.objs.map Ap)), .upd 6 (.var (I9 s))] := by
 refine Eo Af fn139 (by simp) hg h38 (by decide) rfl (D0 _) fun F => ?_;have a1 := hs.fine.on;simp (disch := omega) only [ir139, I9, A2, E5, Ae, hk, Dh, go_sem];refine Aa (Mu (s := s) (G9 e) hs.so (by omega) rfl) ?_;simp (disch := omega) only [hd, go_sem];refine B9 ?_;simp (disch := omega) only [go_sem]
set_option maxHeartbeats 4000000 in
theorem Ap2 {s : St} {e : Evt} {o : Obj} (hs : StOk s) (he : ev e) (hk : e.kind = 6) (ho : s.objs[Bs s.objs (Ax e)]? = some o) (hid : o.id = Ax e) {h d}
 (hg : h 6 = some (.var (I9 s))) (h38 : h 38 = some (.row 15 (s.objs.map Ap))) :
 DeepOk Tryz.prog 106 [.p 6 0, .vec 21 (Be e)] h d (.pv (.i .i64 0)) [.new 38 (.row 15 ((Ts s e (Bs s.objs (Ax e)) o).objs.map Ap)), .upd 6 (.var (I9 (Ts s e (Bs s.objs (Ax e)) o)))] := by
 refine Eo Af fn106 (by simp) hg h38 (by decide) rfl (D0 _) fun F => ?_;have n8 : ¬ e.kind = 8 := by omega
 have n9 : ¬ e.kind = 9 := by omega
 have n1 : ¬ e.kind = 1 := by omega
 have n2 : ¬ e.kind = 2 := by omega
 have hi := Yx hs.so ho hid;have hlt := (List.getElem?_eq_some_iff.1 ho).1;have a1 := hs.fine.on;simp (disch := omega) only [ir106, I9, A2, E5, Ae, n8, n9, n1, n2, A7, go_sem];refine Aa (Mw (l := s.objs) (Ax e) rfl rfl hs.so (by omega)) ?_;simp (disch := omega) only [hi, List.length_map, hk, Ae, Bh, go_sem];refine Hr (Afz hs he hk ho rfl rfl) ?_;simp (disch := omega) only [I9, A2, E5, go_sem];refine B9 ?_;simp (disch := omega) only [go_sem]
set_option maxHeartbeats 4000000 in
theorem Ap1 {s : St} {e : Evt} {o : Obj} (hs : StOk s) (he : ev e) (hk : e.kind = 7) (hd : Km s.objs (G9 e) = 0) (ho : s.objs[Bs s.objs (Ax e)]? = some o) (hid : o.id = Ax e) {h d}
 (hg : h 6 = some (.var (I9 s))) (h38 : h 38 = some (.row 15 (s.objs.map Ap))) :
 DeepOk Tryz.prog 106 [.p 6 0, .vec 21 (Be e)] h d (.pv (.i .i64 0)) [.new 38 (.row 15 ((Mz s e (Bs s.objs (Ax e)) o).objs.map Ap)), .upd 6 (.var (I9 (Mz s e (Bs s.objs (Ax e)) o)))] := by
 refine Eo Af fn106 (by simp) hg h38 (by decide) rfl (D0 _) fun F => ?_;have n8 : ¬ e.kind = 8 := by omega
 have n9 : ¬ e.kind = 9 := by omega
 have n1 : ¬ e.kind = 1 := by omega
 have n2 : ¬ e.kind = 2 := by omega
 have hi := Yx hs.so ho hid;have hlt := (List.getElem?_eq_some_iff.1 ho).1;have a1 := hs.fine.on;simp (disch := omega) only [ir106, I9, A2, E5, Ae, n8, n9, n1, n2, A7, go_sem];refine Aa (Mw (l := s.objs) (Ax e) rfl rfl hs.so (by omega)) ?_;simp (disch := omega) only [hi, List.length_map, hk, Ae, Bh, go_sem];refine Hr (Afy hs he hk hd ho rfl rfl) ?_;simp (disch := omega) only [I9, A2, E5, go_sem];refine B9 ?_;simp (disch := omega) only [go_sem]
set_option maxHeartbeats 4000000 in
theorem Aav {s : St} {e : Evt} {o : Obj} (hs : StOk s) (hk : e.kind = 7) (hd : Km s.objs (G9 e) ≠ 0) (ho : s.objs[Bs s.objs (Ax e)]? = some o) (hid : o.id = Ax e) : Zq s e (Km s.objs (G9 e)) := by
 intro h d hg h38;refine ⟨s.objs.map Ap, I9 s, Eo Af fn106 (by simp) hg h38 (by decide) rfl (D0 s) fun F => ?_⟩;have n8 : ¬ e.kind = 8 := by omega
 have n9 : ¬ e.kind = 9 := by omega
 have n1 : ¬ e.kind = 1 := by omega
 have n2 : ¬ e.kind = 2 := by omega
 have hi := Yx hs.so ho hid;have hlt := (List.getElem?_eq_some_iff.1 ho).1;have a1 := hs.fine.on;simp (disch := omega) only [ir106, I9, A2, E5, Ae, n8, n9, n1, n2, A7, go_sem];refine Aa (Mw (l := s.objs) (Ax e) rfl rfl hs.so (by omega)) ?_;simp (disch := omega) only [hi, List.length_map, hk, Ae, Bh, go_sem];refine Hr (Afx hs hk hd rfl rfl) ?_;simp (disch := omega) only [I9, A2, E5, go_sem];refine B9 ?_;simp (disch := omega) only [go_sem]
end Go.Proofs.YthmjebkldgdeiaaGreat.Fw
namespace Go.Proofs.YthmjebkldgdeiaaGreat.Fw
open Go.RowKit Go.Proofs
def E3 (l : List Obj) (i : Bn) : Option Obj := match l[Bs l i]? with
 | some o => if o.id = i then some o else none
 | none => none
theorem Gr {l : List Obj} {i : Bn} {o : Obj} (h : E3 l i = some o) : l[Bs l i]? = some o ∧ o.id = i := by
 unfold E3 at h;split at h
 · rename_i u hu;split at h
   · rename_i hi; cases h; exact ⟨hu, hi⟩
   · cases h
 · cases h
theorem Alp {l : List Obj} (hs : Eh l) (i : Bn) : isO l i = (E3 l i).isSome := by
 rw [Qo hs]; unfold E3;cases l[Bs l i]? with
 | none => rfl
 | some x => simp only; by_cases h : x.id = i <;> simp [h]
theorem Agz {l : List Obj} (i : Bn) : Km l i = if i = (0, 0) then 0 else match E3 l i with | some o => if o.dir = true then 0 else 22 | none => 2 := by
 unfold Km E3;split
 · rfl
 · cases l[Bs l i]? with
   | none => rfl
   | some x => simp only; by_cases h : x.id = i <;> simp [h]
open Classical in
noncomputable def T3 (s : St) (e : Evt) : Int :=
 if e.kind = 8 ∨ e.kind = 9 then 0
 else if e.kind = 1 ∨ e.kind = 2 then Km s.objs (G9 e)
 else match E3 s.objs (Ax e) with
  | none => 2
  | some o => if e.kind = 7 then Km s.objs (G9 e) else if e.kind = 6 then 0 else if o.dir = true then 23 else if Dg o.vers e.base.l then 2 else 0
def doS (s : St) (e : Evt) : St :=
 if e.kind = 8 then H5 s e
 else if e.kind = 9 then Ob s e
 else if e.kind = 1 ∨ e.kind = 2 then mkS s e
 else match E3 s.objs (Ax e) with
  | none => s
  | some o => if e.kind = 7 then Mz s e (Bs s.objs (Ax e)) o else if e.kind = 6 then Ts s e (Bs s.objs (Ax e)) o else { s with objs := wrO s e o }
noncomputable def Et (s : St) (e : Evt) : Int :=
 if Bk e = false then 7
 else if Bl s.known e.rep e.seq = true then 11
 else if ¬ Rj e.dep s.known then 10
 else if s.ret (e.rep - 1).toNat = true then 28
 else T3 s e
def G6 (s : St) (e : Evt) : St := { s with known := A9 s.known e.rep e.seq }
def Hd (s : St) (e : Evt) : St := doS (G6 s e) e
structure StIn (s : St) : Prop extends StOk s where
 sv : ∀ o ∈ s.objs, Cu o.vers
 sd : ∀ o ∈ s.objs, ∀ v ∈ o.vers, v.data.length ≤ 200
 sk : ∀ o ∈ s.objs, ∀ v ∈ o.vers, Bl s.known v.rep v.seq = true
theorem Cw {e : Evt} (h : Bk e = true) : Im e := by
 unfold Bk at h;simp only [Bool.and_eq_true, decide_eq_true_eq] at h;exact h.1
theorem Xa {e : Evt} (h : Bk e = true) (hk : e.kind = 3 ∨ e.kind = 4 ∨ e.kind = 5) {l : List Ver} (hd : ∀ v ∈ l, v.data.length ≤ 200) : FitsW l e := by
 unfold Bk at h;simp only [Bool.and_eq_true, decide_eq_true_eq] at h;have hK := h.2.2.2;refine ⟨hk, fun h5 => ?_, fun h3 => ?_, hd⟩
 · have : e.kind = 3 ∨ e.kind = 4 := by omega
   rcases this with h3 | h4
   · rw [J5 h3] at hK;simp only [Bool.and_eq_true, Cv, decide_eq_true_eq] at hK;exact hK.2.2.1
   · rw [N1 h4] at hK;simp only [Bool.and_eq_true, Cv, decide_eq_true_eq] at hK;exact hK.2.2
 · rw [J5 h3] at hK;simp only [Bool.and_eq_true, Cv, decide_eq_true_eq] at hK;exact hK.2.2.2.2.2.2
theorem Ow {e : Evt} (h : Bk e = true) (hk : e.kind = 3 ∨ e.kind = 4 ∨ e.kind = 5) : e.base.l.length ≤ 8 := by
 unfold Bk at h;simp only [Bool.and_eq_true, decide_eq_true_eq] at h;have hK := h.2.2.2;rcases hk with h3 | h3 | h3
 · rw [J5 h3] at hK;simp only [Bool.and_eq_true, Eb, decide_eq_true_eq] at hK;have := hK.2.1.1; omega
 · rw [N1 h3] at hK;simp only [Bool.and_eq_true, Eb, decide_eq_true_eq] at hK;have := hK.2.1.1; omega
 · rw [N0 h3] at hK;simp only [Bool.and_eq_true, Eb, decide_eq_true_eq] at hK;have := hK.2.1.1; omega
structure DoIn (s : St) (e : Evt) : Prop where
 ok : StOk s
 ev : ev e
 ck : Bk e = true
 vo : e.kind = 3 ∨ e.kind = 4 ∨ e.kind = 5 → ∀ o ∈ s.objs, VerOk o e
theorem A74 {s : St} {e : Evt} (hi : DoIn s e) (hw : T3 s e ≠ 0) : Zq s e (T3 s e) := by
 have hb := Cw hi.ck;obtain ⟨b1, b2, b3, b4, b5, b6, b7⟩ := hb;unfold T3 at hw ⊢;rcases Classical.em (e.kind = 8 ∨ e.kind = 9) with h89 | h89
 · rw [if_pos h89] at hw; exact absurd rfl hw
 rw [if_neg h89] at hw ⊢;rcases Classical.em (e.kind = 1 ∨ e.kind = 2) with h12 | h12
 · rw [if_pos h12] at hw ⊢;exact Akz hi.ok h12 hw
 rw [if_neg h12] at hw ⊢;have hk : e.kind = 3 ∨ e.kind = 4 ∨ e.kind = 5 ∨ e.kind = 6 ∨ e.kind = 7 := by omega
 cases ho : E3 s.objs (Ax e) with
 | none =>
   have : isO s.objs (Ax e) = false := by rw [Alp hi.ok.so, ho]; rfl
   exact Akx hi.ok hk this
 | some o =>
   rw [ho] at hw;simp only at hw ⊢;obtain ⟨g1, g2⟩ := Gr ho;rcases Classical.em (e.kind = 7) with h7 | h7
   · rw [if_pos h7] at hw ⊢;exact Aav hi.ok h7 hw g1 g2
   rw [if_neg h7] at hw ⊢;rcases Classical.em (e.kind = 6) with h6 | h6
   · rw [if_pos h6] at hw; exact absurd rfl hw
   rw [if_neg h6] at hw ⊢;have hk : e.kind = 3 ∨ e.kind = 4 ∨ e.kind = 5 := by omega
   rcases Classical.em (o.dir = true) with hd | hd
   · rw [if_pos hd]; exact Apy hi.ok hk g1 g2 hd
   rw [if_neg hd] at hw ⊢;rcases Classical.em (Dg o.vers e.base.l) with hm | hm
   · rw [if_pos hm]; exact Af2 hi.ok hi.ev g1 g2 (by simpa using hd) (hi.vo hk o (List.mem_of_getElem? g1)) hm
   · rw [if_neg hm] at hw; exact absurd rfl hw
theorem Bat {s : St} {e : Evt} (hi : DoIn s e) (hw : T3 s e = 0) (hk : ¬ (e.kind = 8 ∨ e.kind = 9)) : ∃ r, PImpR r ((doS s e).objs.map Ap) ∧
 ∀ {h : Nat → Option Blk} {d : Nat}, h 6 = some (.var (I9 s)) → h 38 = some (.row 15 (s.objs.map Ap)) → DeepOk Tryz.prog 106 [.p 6 0, .vec 21 (Be e)] h d (.pv (.i .i64 0)) [.new 38 (.row 15 r), .upd 6 (.var (I9 (doS s e)))] := by
 have hb := Cw hi.ck;obtain ⟨b1, b2, b3, b4, b5, b6, b7⟩ := hb;have n8 : ¬ e.kind = 8 := fun h => hk (.inl h);have n9 : ¬ e.kind = 9 := fun h => hk (.inr h);unfold T3 at hw;unfold doS;rw [if_neg hk] at hw;rw [if_neg n8, if_neg n9];by_cases h12 : e.kind = 1 ∨ e.kind = 2
 · rw [if_pos h12] at hw ⊢;refine ⟨_, ?_, fun hg h38 => A5x hi.ok h12 hw hg h38⟩;simp only [mkS, List.map_append, List.map_take, List.map_drop, List.map_cons];exact PImpR.app (.refl _) ⟨Ais (Wh e) (.inl rfl), .refl _⟩
 rw [if_neg h12] at hw ⊢;have hk' : e.kind = 3 ∨ e.kind = 4 ∨ e.kind = 5 ∨ e.kind = 6 ∨ e.kind = 7 := by omega
 cases ho : E3 s.objs (Ax e) with
 | none => rw [ho] at hw; cases hw
 | some o =>
   rw [ho] at hw;simp only at hw ⊢;obtain ⟨g1, g2⟩ := Gr ho;by_cases h7 : e.kind = 7
   · rw [if_pos h7] at hw ⊢;exact ⟨_, .refl _, fun hg h38 => Ap1 hi.ok hi.ev h7 hw g1 g2 hg h38⟩
   rw [if_neg h7] at hw ⊢;by_cases h6 : e.kind = 6
   · rw [if_pos h6];exact ⟨_, .refl _, fun hg h38 => Ap2 hi.ok hi.ev h6 g1 g2 hg h38⟩
   rw [if_neg h6] at hw ⊢;have hk : e.kind = 3 ∨ e.kind = 4 ∨ e.kind = 5 := by omega
   by_cases hd : o.dir = true
   · rw [if_pos hd] at hw; cases hw
   rw [if_neg hd] at hw;by_cases hm : Dg o.vers e.base.l
   · rw [if_pos hm] at hw; cases hw
   · exact ⟨_, .refl _, fun hg h38 => A5w hi.ok hi.ev g1 g2 (by simpa using hd) (hi.vo hk o (List.mem_of_getElem? g1)) hm hg h38⟩
theorem Asf {s : St} (hs : StIn s) {e : Evt} (h : Bl s.known e.rep e.seq = false) {o : Obj} (ho : o ∈ s.objs) : Bo o.vers e.rep e.seq = none := by
 rw [Pj];intro v hv ⟨h1, h2⟩;have := hs.sk o ho v hv;rw [h1, h2, h] at this; cases this
theorem Alk {s : St} (hs : StIn s) {e : Evt} (he : ev e) (hc : Bk e = true) (h : Bl s.known e.rep e.seq = false) : DoIn (G6 s e) e :=
 ⟨⟨⟨hs.fine.on, hs.fine.ov, hs.fine.en⟩, hs.so, hs.se⟩, he, hc, fun hk o ho => ⟨hs.sv o ho, Xa hc hk (hs.sd o ho), Asf hs h ho, Nat.le_trans (Ow hc hk) (by omega)⟩⟩
theorem Ai1 (a b : PV) (w : Nat → Int) (r : Nat → Bool) {j : Nat} (hj : j < 8) (K : KK) : LoadK (some (a :: b :: (iE w ++ wE r))) (18 + j - 8) 1 false K = K (.pv (.b (r j))) [] := by
 have e : 18 + j - 8 = 10 + j := by omega
 rw [e];simp only [LoadK, Hg, eq_iff_iff];have e2 : (a :: b :: (iE w ++ wE r)).getD (10 + j) (.b false) = .b (r j) := by
  have hk2 : j = 0 ∨ j = 1 ∨ j = 2 ∨ j = 3 ∨ j = 4 ∨ j = 5 ∨ j = 6 ∨ j = 7 := by omega
  simp only [iE, wE, Cm];rcases hk2 with rfl | rfl | rfl | rfl | rfl | rfl | rfl | rfl <;> rfl
 rw [e2];exact ⟨fun h => h.2.2, fun h => ⟨by simp [Sw, Rs]; omega, .inr trivial, h⟩⟩
theorem Uc {x y z : SV} (h : Imp x y) : Imp (.tup [x, z]) (.tup [y, z]) := Aw8 ⟨h, Imp.refl _, trivial⟩
noncomputable def Aak (s : St) (e : Evt) : St := if Et s e = 0 then Hd s e else st0
theorem P7 {s : St} {e : Evt} {n : Int} (h : Et s e = n) (hn : n ≠ 0) : Imp (.tup [.agg [.vec 8 (vE fun _ => 0), .pv (.sl true 0 []), .pv (.sl true 0 []), .vec 8 (iE fun _ => 0), .vec 8 (wE fun _ => false)], .pv (.i .i64 n)]) (.tup [.agg (A6 (Aak s e)), .pv (.i .i64 (Et s e))]) := by
 have e1 : Aak s e = st0 := if_neg (by rw [h]; exact hn);rw [e1, h];exact Uc Vz
set_option maxHeartbeats 8000000 in
theorem Air {s : St} {e : Evt} (hs : StIn s) (he : ev e) {h d} : FunOk Tryz.prog 71 [.agg (A6 s), .vec 21 (Be e)] h d (.tup [.agg (A6 (Aak s e)), .pv (.i .i64 (Et s e))]) [] := by
 refine S0 Af fn71 (by simp) rfl rfl fun F => ?_;simp (disch := omega) only [ir71, A6, A2, Bh, go_sem];refine Aa (Av8 e he) ?_;by_cases hc' : Bk e = false
 · have hw : Et s e = 7 := if_pos hc';simp (disch := omega) only [hc', go_sem];refine B9 ?_;simp (disch := omega) only [go_sem];exact P7 hw (by decide)
 have hc : Bk e = true := by simpa using hc'
 have hb := Cw hc;obtain ⟨b1, b2, _⟩ := hb;simp (disch := omega) only [hc, A5, E4, go_sem];refine Aa (Gq _ _ _) ?_;by_cases h1 : Bl s.known e.rep e.seq = true
 · have hw : Et s e = 11 := by unfold Et; rw [if_neg hc', if_pos h1]
   simp (disch := omega) only [h1, go_sem];refine B9 ?_;simp (disch := omega) only [go_sem];exact P7 hw (by decide)
 have h1' : Bl s.known e.rep e.seq = false := by simpa using h1
 simp (disch := omega) only [h1', E4, go_sem];refine Aa (Azg _ _) ?_;by_cases h2 : Rj e.dep s.known;rotate_left
 · have hw : Et s e = 10 := by unfold Et; rw [if_neg hc', if_neg h1, if_pos h2]
   have h2' := decide_eq_false h2;simp (disch := omega) only [h2', go_sem];refine B9 ?_;simp (disch := omega) only [go_sem];exact P7 hw (by decide)
 have h2' := decide_eq_true h2;obtain ⟨k, hk8, hre⟩ : ∃ k : Nat, k < 8 ∧ e.rep - 1 = k := ⟨(e.rep - 1).toNat, by omega, by omega⟩
 have hld := fun (a b : PV) (w : Nat → Int) (r : Nat → Bool) (K : KK) => Ai1 a b w r hk8 K;simp (disch := omega) only [h2', Da, hre, hld, go_sem];by_cases h3 : s.ret k = true
 · have hw : Et s e = 28 := by unfold Et; rw [if_neg hc', if_neg h1, if_neg (by simpa using h2), if_pos (by rw [hre]; exact h3)]
   simp (disch := omega) only [h3, go_sem];refine B9 ?_;simp (disch := omega) only [go_sem];exact P7 hw (by decide)
 have h3' : s.ret k = false := by simpa using h3
 have hw : Et s e = T3 (G6 s e) e := by unfold Et; rw [if_neg hc', if_neg h1, if_neg (by simpa using h2), if_neg (by rw [hre]; exact h3)]; rfl
 simp (disch := omega) only [h3', go_sem];refine Aa (Ap6 (s := s) hs.fine) ?_;simp (disch := omega) only [A2, E5, A5, go_sem];refine Aa (Aaq s.known e.rep e.seq) ?_;have hvl := Bi (A9 s.known e.rep e.seq);simp (disch := omega) only [Bh, hvl, go_sem];have hdi := Alk hs he hc h1';by_cases hz : T3 (G6 s e) e = 0;rotate_left
 · generalize hH : FS.h _ = H;have g6 : H 6 = some (.var (I9 (G6 s e))) := by rw [← hH]; rfl
   have g38 : H 38 = some (.row 15 ((G6 s e).objs.map Ap)) := by rw [← hH]; rfl
   obtain ⟨r, X, hdo⟩ := A74 hdi hz H 46 g6 g38;refine Hr hdo ?_;simp (disch := omega) only [hz, go_sem];refine B9 ?_;simp (disch := omega) only [go_sem];exact P7 hw hz
 have hR : Aak s e = doS (G6 s e) e := if_pos (hw.trans hz);rw [hR, hw, hz];by_cases h8 : e.kind = 8
 · have hS : doS (G6 s e) e = H5 (G6 s e) e := if_pos h8;rw [hS];refine Hr (Apz (s := G6 s e) h8 ⟨b1, b2⟩ rfl rfl) ?_;simp (disch := omega) only [A6, A2, go_sem];refine B9 ?_;simp (disch := omega) only [go_sem]
 by_cases h9 : e.kind = 9
 · have hS : doS (G6 s e) e = Ob (G6 s e) e := by unfold doS; rw [if_neg h8, if_pos h9]
   rw [hS];refine Hr (Av5 (s := G6 s e) h9 ⟨b1, b2⟩ rfl rfl) ?_;simp (disch := omega) only [A6, A2, go_sem];refine B9 ?_;simp (disch := omega) only [go_sem]
 obtain ⟨r, hr, hdo⟩ := Bat hdi hz (fun h => h.elim h8 h9);refine Hr (hdo rfl rfl) ?_;generalize doS (G6 s e) e = S at *;simp (disch := omega) only [I9, A2, E5, go_sem];refine ⟨_, D7 38 rfl (.same _), ?_⟩
 (try simp only [Ch, Cg, Cf, Ce, Cd, Cc, Cb, Ca]); simp (disch := omega) only [go_sem]
 exact Uc (Ui (s := S) (.inr rfl) (.inr rfl) hr (.refl _))
end Go.Proofs.YthmjebkldgdeiaaGreat.Fw
namespace Go.Proofs.YthmjebkldgdeiaaGreat.Fw
open Go.RowKit Go.Proofs
theorem Apk (r : Int) (q : Nat) {h d} : FunOk Tryz.prog 131 [.vec 2 [.i .i64 r, .i .u32 q]] h d (.pv (.b (B0 r q))) [] := by
 refine Ao Af fn131 (by simp) rfl rfl fun F => ?_;by_cases h1 : r = 0
 · by_cases h2 : q = 0
   · have e : B0 r q = true := decide_eq_true ⟨h1, h2⟩;have h2' : (q : Int) = 0 := by omega
     simp (disch := omega) only [ir131, Sl, Sk, h1, h2', e, go_sem];simp [B0, h2]
   · have e : B0 r q = false := decide_eq_false fun h => h2 h.2;have h2' : ¬ (q : Int) = 0 := by omega
     simp (disch := omega) only [ir131, Sl, Sk, h1, h2', e, go_sem];simp [B0, h2]
 · have e : B0 r q = false := decide_eq_false fun h => h1 h.1;simp (disch := omega) only [ir131, Sl, Sk, h1, e, go_sem]
def Z7 (f : Bool) (l : List Bn) (i : Bn) (k : Nat) : FS := mk [(5, .pv (.i .i64 k)), (0, .pv (.sl f 2 (l.map Ed))), (3, .p 3 0)] [(3, some (.var (.vec 2 [.i .i64 i.1, .i .u32 i.2])))]
set_option maxHeartbeats 1000000 in
theorem O9 (g : SlI) (i : Bn) (hg : g.ok) {h d} (hn : g.l.length ≤ 1000) : FunOk Tryz.prog 99 [.pv g.pv, .vec 2 [.i .i64 i.1, .i .u32 i.2]] h d (.pv (.b (decide (i ∈ g.l)))) [] := by
 refine FunOk.imp (args' := [.pv (.sl g.f 2 (g.l.map Ed)), .vec 2 [.i .i64 i.1, .i .u32 i.2]]) ?_ ⟨Uh g hg, Imp.refl _, trivial⟩ (by simp [A4, tn]);refine Ao Af fn99 (by simp) rfl rfl fun F => ?_;generalize g.f = f;generalize g.l = l at *;simp (disch := omega) only [ir99, List.length_map, go_sem];refine A1 Af (Z7 f l i) (fun k => k ≤ l.length ∧ ∀ j x, j < k → l[j]? = some x → i ≠ x) (fun k => l.length - k) 0 ⟨by simp, fun j x hj => absurd hj (Nat.not_lt_zero j)⟩ (Aj ?_ ?_) fun k hk => ?_
 · simp (disch := omega) only [go_sem]
 · simp (disch := omega) only [go_sem]
 obtain ⟨hk1, hk2⟩ := hk;by_cases hlt : k < l.length
 · have hx : l[k]? = some l[k] := List.getElem?_eq_getElem hlt;have he : (l.map Ed)[k]? = some (Ed l[k]) := by rw [List.getElem?_map, hx]; rfl
   have hm := List.getElem_mem hlt;generalize l[k] = b at *;by_cases hb : b = i
   · have hp := Fh hb;have e : decide (i ∈ l) = true := decide_eq_true (hb ▸ hm);simp (disch := omega) only [Z7, List.length_map, he, Ev, Ag, hp, e, go_sem]
   · have hp := E7 hb;simp (disch := omega) only [Z7, List.length_map, he, Ev, Ag, hp, go_sem];refine Ad (k + 1) _ _ rfl ⟨by omega, fun j x hj hjx => ?_⟩ (by omega) ?_ ?_
     · by_cases ej : j = k
       · subst ej; rw [hx] at hjx; cases hjx; exact fun q => hb q.symm
       · exact hk2 j x (by omega) hjx
     · simp (disch := omega) only [go_sem]
     · simp (disch := omega) only [go_sem]
 · obtain rfl : k = l.length := by omega
   have e : decide (i ∈ l) = false := decide_eq_false fun hm => by
    obtain ⟨j, hj⟩ := List.mem_iff_getElem?.1 hm;exact hk2 j i (List.getElem?_eq_some_iff.1 hj).1 hj rfl
   simp (disch := omega) only [Z7, List.length_map, e, go_sem]
theorem An0 (v : Vc) (r : Int) (q : Nat) : vE (Cn v (Qd r q)) = vE (A9 v r q) := K9 fun i hi => (Ab3 v r q i hi).symm
theorem E1 (v : Vc) (r : Int) (q : Nat) {h d} : FunOk Tryz.prog 62 [.vec 8 (vE v), .vec 2 [.i .i64 r, .i .u32 q]] h d (.vec 8 (vE (A9 v r q))) [] := by
 rw [← An0]; exact Uk v r q
def Bz (l : List Evt) : Vc := l.foldl (fun v e => A9 v e.rep e.seq) (fun _ => 0)
theorem Ib (l : List Evt) (e : Evt) : Bz (l ++ [e]) = A9 (Bz l) e.rep e.seq := by simp [Bz]
def Z6 (f : Bool) (l : List Evt) (k : Nat) : FS := mk [(4, .pv (.i .i64 k)), (0, .pv (.sl f 21 (l.map Be))), (3, .p 3 0), (2, .p 2 0)] [(3, some (.var (.vec 8 (vE (Bz (l.take k)))))), (2, some (.var (.vec 8 (vE fun _ => 0))))]
set_option maxHeartbeats 1000000 in
theorem Aim {x : SV} {f : Bool} {l : List Evt} {h d} (hx : C2 h [x] = [.pv (.sl f 21 (l.map Be))]) (hl : Bf [x] = true) (hn : l.length ≤ 1000) : FunOk Tryz.prog 19 [x] h d (.vec 8 (vE (Bz l))) [] := by
 refine Db Af fn19 (by simp) hl (Ahy _) fun F => ?_;rw [hx];simp (disch := omega) only [ir19, go_sem];refine A1 Af (Z6 f l) (fun k => k ≤ l.length) (fun k => l.length - k) 0 (by simp) (Aj ?_ ?_) fun k hk => ?_
 · simp (disch := omega) only [go_sem]
 · simp (disch := omega) only [Bz, List.take_zero, List.foldl_nil, go_sem]
 by_cases hlt : k < l.length
 · have hx : l[k]? = some l[k] := List.getElem?_eq_getElem hlt;have he : (l.map Be)[k]? = some (Be l[k]) := by rw [List.getElem?_map, hx]; rfl
   have ht := C3 hx;generalize l[k] = e at *;have hs : Bz (l.take (k + 1)) = A9 (Bz (l.take k)) e.rep e.seq := by rw [ht, Ib]
   simp (disch := omega) only [Z6, List.length_map, he, A5, go_sem];refine Aa (E1 _ _ _) ?_;simp (disch := omega) only [go_sem];refine Ad (k + 1) _ _ rfl (by omega) (by omega) ?_ ?_
   · simp (disch := omega) only [go_sem]
   · simp (disch := omega) only [hs, go_sem]
 · obtain rfl : k = l.length := by omega
   have htk : l.take l.length = l := List.take_length;simp (disch := omega) only [Z6, List.length_map, htk, go_sem]
def Ig (l : List Evt) (i : Bn) : Option Evt := l.find? fun e => decide (Ak e = i)
def Z9 (f : Bool) (l : List Evt) (i : Bn) (z : SV) (k : Nat) : FS := mk [(6, .pv (.i .i64 k)), (0, .pv (.sl f 21 (l.map Be))), (3, .p 3 0), (4, .p 4 0)] [(3, some (.var (.vec 2 [.i .i64 i.1, .i .u32 i.2]))), (4, some (.var z))]
theorem Axu {l : List Evt} {i : Bn} {k : Nat} {e : Evt} (h : ∀ j x, j < k → l[j]? = some x → Ak x ≠ i) (hx : l[k]? = some e) (he : Ak e = i) : Ig l i = some e := by
 obtain ⟨hlt, hg⟩ := List.getElem?_eq_some_iff.1 hx;unfold Ig;rw [List.find?_eq_some_iff_getElem];refine ⟨by simpa using he, k, hlt, hg, fun j hj => ?_⟩;simpa using h j _ hj (List.getElem?_eq_getElem (by omega))
theorem Ame {l : List Evt} {i : Bn} (h : ∀ j x, j < l.length → l[j]? = some x → Ak x ≠ i) : Ig l i = none := by
 unfold Ig;rw [List.find?_eq_none];intro x hx;obtain ⟨j, hj⟩ := List.mem_iff_getElem?.1 hx;simpa using h j x (List.getElem?_eq_some_iff.1 hj).1 hj
set_option maxHeartbeats 1000000 in
theorem Apx {f : Bool} {l : List Evt} (i : Bn) {h d} (hn : l.length ≤ 1000) : FunOk Tryz.prog 52 [.pv (.sl f 21 (l.map Be)), .vec 2 [.i .i64 i.1, .i .u32 i.2]] h d (match Ig l i with | some e => .tup [.vec 21 (Be e), .pv (.b true)] | none => .tup [.vec 21 (Be ⟨0, 0, fun _ => 0, 0, 0, 0, 0, 0, [], .nil, .nil, 0, [], 0⟩), .pv (.b false)]) [] := by
 refine S0 Af fn52 (by simp) rfl (by split <;> rfl) fun F => ?_;simp (disch := omega) only [ir52, List.length_map, go_sem];refine A1 Af (Z9 f l i (.agg [.pv (.i .i64 0), .pv (.i .u32 0), .vec 8 (vE fun _ => 0), .pv (.i .i64 0), .pv (.i .i64 0), .pv (.i .u32 0), .pv (.i .i64 0), .pv (.i .u32 0), .pv (.s []), .pv (.sl true 0 []), .pv (.sl true 0 []), .pv (.i .i64 0), .pv (.s []), .pv (.i .i64 0)])) (fun k => k ≤ l.length ∧ ∀ j x, j < k → l[j]? = some x → Ak x ≠ i) (fun k => l.length - k) 0 ⟨by simp, fun j x hj => absurd hj (Nat.not_lt_zero j)⟩ (Aj ?_ ?_) fun k hk => ?_
 · simp (disch := omega) only [go_sem]
 · simp (disch := omega) only [go_sem]
 obtain ⟨hk1, hk2⟩ := hk;by_cases hlt : k < l.length
 · have hx : l[k]? = some l[k] := List.getElem?_eq_getElem hlt;have he : (l.map Be)[k]? = some (Be l[k]) := by rw [List.getElem?_map, hx]; rfl
   generalize l[k] = e at *;by_cases hb : Ak e = i
   · have hp := Fh hb;have hf := Axu hk2 hx hb;rw [hf]
     (try simp only [Ch, Cg, Cf, Ce, Cd, Cc, Cb, Ca]); simp (disch := omega) only [Z9, List.length_map, he, A5, Ag, hp, Bh, go_sem]
     refine B9 ?_;simp (disch := omega) only [go_sem]
   · have hp := E7 hb;simp (disch := omega) only [Z9, List.length_map, he, A5, Ag, hp, go_sem];refine Ad (k + 1) _ _ rfl ⟨by omega, fun j x hj hjx => ?_⟩ (by omega) ?_ ?_
     · by_cases ej : j = k
       · subst ej; rw [hx] at hjx; cases hjx; exact hb
       · exact hk2 j x (by omega) hjx
     · simp (disch := omega) only [go_sem]
     · simp (disch := omega) only [go_sem]
 · obtain rfl : k = l.length := by omega
   rw [Ame hk2]
   (try simp only [Ch, Cg, Cf, Ce, Cd, Cc, Cb, Ca]); simp (disch := omega) only [Z9, List.length_map, go_sem]
   refine B9 ?_;simp (disch := omega) only [go_sem];exact Uc (Gl rfl (by simp [Ac]))
theorem Kt (e : Evt) {h d} : FunOk Tryz.prog 132 [.vec 21 (Be e)] h d (.pv (.b (decide (e.kind = 3 ∨ e.kind = 4 ∨ e.kind = 5)))) [] := by
 refine Ao Af fn132 (by simp) rfl rfl fun F => ?_;by_cases h3 : e.kind = 3
 · simp (disch := omega) only [ir132, Ae, h3, go_sem]
 by_cases h4 : e.kind = 4
 · simp (disch := omega) only [ir132, Ae, h4, go_sem]
 by_cases h5 : e.kind = 5
 · simp (disch := omega) only [ir132, Ae, h5, go_sem]
 · simp (disch := omega) only [ir132, Ae, h3, h4, h5, go_sem]
def Xx (s : List UInt8) (n : Int) : List UInt8 := if n < 0 ∨ 200 < n then [] else Oh s n.toNat
open Classical in
noncomputable def Kj (s : List UInt8) (n : Int) (t : List UInt8) : List UInt8 := if D2 s n t then [] else Ir s n.toNat t
noncomputable def Ge (e : Evt) (was : List UInt8) : List UInt8 := if e.kind = 5 then e.data else if e.kind = 4 then Xx was e.off else Kj was e.off e.data
noncomputable def Dc (l : List Evt) : Nat → Bn → List UInt8
 | 0, _ => []
 | n + 1, i => match Ig l i with
   | none => []
   | some e => Ge e (match e.base.l with | [] => [] | b :: _ => Dc l n b)
theorem Aee (s : List UInt8) (n : Nat) : (Oh s n).length = n := by
 unfold Oh; split
 · simp; omega
 · simp [Rl]; omega
theorem V8 (s t : List UInt8) (n : Nat) : (Ir s n t).length = max s.length (n + t.length) := by
 unfold Ir; simp [Rl]; omega
theorem Aj8 {e : Evt} (he : e.data.length ≤ 1000) (was : List UInt8) : (Ge e was).length ≤ 1000 := by
 unfold Ge;split
 · exact he
 · split
   · unfold Xx; split
     · simp
     · rw [Aee]; omega
   · unfold Kj; split
     · simp
     · rename_i h;unfold D2 at h;rw [V8]; omega
theorem Ag5 {l : List Evt} (h : ∀ e ∈ l, e.data.length ≤ 1000) (n : Nat) (i : Bn) : (Dc l n i).length ≤ 1000 := by
 cases n with
 | zero => simp [Dc]
 | succ n =>
   simp only [Dc];split
   · simp
   · rename_i e he;exact Aj8 (h e (List.mem_of_find?_eq_some he)) _
def Grd (l : List Evt) (rk : Evt → Nat) : Prop := ∀ e ∈ l, e.kind ≠ 5 → ∀ b t, e.base.l = b :: t → ∀ e', Ig l b = some e' → rk e' < rk e
theorem Aaw {l : List Evt} {i : Bn} (hn : l.length ≤ 1000) (hf : Ig l i = none) {x : SV} {f : Bool} {h d} (hx : C2 h [x, .vec 2 [.i .i64 i.1, .i .u32 i.2]] = [.pv (.sl f 21 (l.map Be)), .vec 2 [.i .i64 i.1, .i .u32 i.2]]) (hl : Bf [x, .vec 2 [.i .i64 i.1, .i .u32 i.2]] = true) :
 FunOk Tryz.prog 133 [x, .vec 2 [.i .i64 i.1, .i .u32 i.2]] h d (.pv (.s [])) [] := by
 refine Db Af fn133 (by simp) hl rfl fun F => ?_;rw [hx];simp (disch := omega) only [ir133, go_sem];refine Aa (Apx (l := l) i hn) ?_;rw [hf]
 (try simp only [Ch, Cg, Cf, Ce, Cd, Cc, Cb, Ca]); simp (disch := omega) only [Ac, go_sem]
set_option maxHeartbeats 4000000 in
theorem Adc {l : List Evt} {rk : Evt → Nat} (hg : Grd l rk) (hn : l.length ≤ 1000) (hev : ∀ e ∈ l, ev e ∧ e.data.length ≤ 1000) : ∀ (n : Nat) (i : Bn), (∀ e, Ig l i = some e → rk e < n) → ∀ (x : SV) (f : Bool) (h : Nat → Option Blk) (d : Nat), C2 h [x, .vec 2 [.i .i64 i.1, .i .u32 i.2]] = [.pv (.sl f 21 (l.map Be)), .vec 2 [.i .i64 i.1, .i .u32 i.2]] → Bf [x, .vec 2 [.i .i64 i.1, .i .u32 i.2]] = true →
 FunOk Tryz.prog 133 [x, .vec 2 [.i .i64 i.1, .i .u32 i.2]] h d (.pv (.s (Dc l n i))) []
 | 0, i, hr => by
   intro x f h d hx hl;have hf : Ig l i = none := by
    cases hq : Ig l i with
    | none => rfl
    | some e => exact absurd (hr e hq) (Nat.not_lt_zero _)
   exact Aaw hn hf hx hl
 | n + 1, i, hr => by
   intro x f h d hx hl;refine Db Af fn133 (by simp) hl rfl fun F => ?_;rw [hx];simp (disch := omega) only [ir133, go_sem];refine Aa (Apx (l := l) i hn) ?_;cases hf : Ig l i with
   | none =>
     have eB : Dc l (n + 1) i = [] := by simp only [Dc, hf]
     (try simp only [Ch, Cg, Cf, Ce, Cd, Cc, Cb, Ca]); simp (disch := omega) only [eB, Ac, go_sem]
   | some e =>
     have hm := List.mem_of_find?_eq_some hf;obtain ⟨he, hd⟩ := hev e hm;have hpv : e.base.pv = .sl e.base.f e.base.z (e.base.l.map Ed) := rfl;have hel := Ac e;by_cases h5 : e.kind = 5
     · have eB : Dc l (n + 1) i = e.data := by simp only [Dc, hf, Ge, if_pos h5]
       (try simp only [Ch, Cg, Cf, Ce, Cd, Cc, Cb, Ca]); simp (disch := omega) only [hel, Ae, h5, G5, eB, go_sem]
     cases hbl : e.base.l with
     | nil =>
       obtain ⟨was, hwas⟩ : ∃ was : List UInt8, was = [] := ⟨_, rfl⟩
       have hwl : was.length ≤ 1000 := by rw [hwas]; simp
       have eB : Dc l (n + 1) i = Ge e was := by simp only [Dc, hf, hbl]; rw [hwas]
       (try simp only [Ch, Cg, Cf, Ce, Cd, Cc, Cb, Ca]); simp (disch := omega) only [hel, Ae, h5, Fb, hpv, hbl, List.map_nil, ← hwas, go_sem]
       by_cases h4 : e.kind = 4
       · have eS : Ge e was = Xx was e.off := by unfold Ge; rw [if_neg h5, if_pos h4]
         (try simp only [Ch, Cg, Cf, Ce, Cd, Cc, Cb, Ca]); simp (disch := omega) only [Ae, h4, I6, go_sem]
         refine Aa (Ap4 was e.off hwl) ?_;by_cases hb : e.off < 0 ∨ 200 < e.off
         · have ec := Je (data := was) hb;have ew : Xx was e.off = [] := if_pos hb;simp (disch := omega) only [ec, eB, eS, ew, go_sem]
         · have ec := K4 (data := was) hb;have ew : Xx was e.off = Oh was e.off.toNat := if_neg hb;simp (disch := omega) only [ec, eB, eS, ew, go_sem]
       · have eS : Ge e was = Kj was e.off e.data := by unfold Ge; rw [if_neg h5, if_neg h4]
         (try simp only [Ch, Cg, Cf, Ce, Cd, Cc, Cb, Ca]); simp (disch := omega) only [Ae, h4, I6, G5, go_sem]
         refine Aa (Ac4 was e.data e.off hd) ?_;by_cases hb : D2 was e.off e.data
         · have ec := Ef hb;have ew : Kj was e.off e.data = [] := if_pos hb;simp (disch := omega) only [ec, eB, eS, ew, go_sem]
         · have ec := Jb hb;have ew : Kj was e.off e.data = Ir was e.off.toNat e.data := if_neg hb;simp (disch := omega) only [ec, eB, eS, ew, go_sem]
     | cons b t =>
       have hok : e.base.z = 2 := he.2.1.resolve_left (by rw [hbl]; simp);have h0 : (List.map Ed (b :: t))[0]? = some (Ed b) := rfl;have hpos : (0 : Int) < ((t.length : Int) + 1) := by omega
       have hrk := hg e hm h5 b t hbl;have hre := hr e hf
       (try simp only [Ch, Cg, Cf, Ce, Cd, Cc, Cb, Ca]); simp (disch := omega) only [hel, Ae, h5, Fb, hpv, hbl, hok, List.length_map, h0, Ev, go_sem]
       refine Aa (Adc hg hn hev n b (fun e' he' => by have := hrk e' he'; omega) _ f _ _ rfl rfl) ?_;have eB : Dc l (n + 1) i = Ge e (Dc l n b) := by simp only [Dc, hf, hbl]
       have hwl := Ag5 (fun e he => (hev e he).2) n b (l := l);generalize Dc l n b = was at *;simp (disch := omega) only [go_sem];by_cases h4 : e.kind = 4
       · have eS : Ge e was = Xx was e.off := by unfold Ge; rw [if_neg h5, if_pos h4]
         (try simp only [Ch, Cg, Cf, Ce, Cd, Cc, Cb, Ca]); simp (disch := omega) only [Ae, h4, I6, go_sem]
         refine Aa (Ap4 was e.off hwl) ?_;by_cases hb : e.off < 0 ∨ 200 < e.off
         · have ec := Je (data := was) hb;have ew : Xx was e.off = [] := if_pos hb;simp (disch := omega) only [ec, eB, eS, ew, go_sem]
         · have ec := K4 (data := was) hb;have ew : Xx was e.off = Oh was e.off.toNat := if_neg hb;simp (disch := omega) only [ec, eB, eS, ew, go_sem]
       · have eS : Ge e was = Kj was e.off e.data := by unfold Ge; rw [if_neg h5, if_neg h4]
         (try simp only [Ch, Cg, Cf, Ce, Cd, Cc, Cb, Ca]); simp (disch := omega) only [Ae, h4, I6, G5, go_sem]
         refine Aa (Ac4 was e.data e.off hd) ?_;by_cases hb : D2 was e.off e.data
         · have ec := Ef hb;have ew : Kj was e.off e.data = [] := if_pos hb;simp (disch := omega) only [ec, eB, eS, ew, go_sem]
         · have ec := Jb hb;have ew : Kj was e.off e.data = Ir was e.off.toNat e.data := if_neg hb;simp (disch := omega) only [ec, eB, eS, ew, go_sem]
def mkB (e : Evt) : Bool := decide (e.kind = 1 ∨ e.kind = 2 ∨ e.kind = 7)
def Ep (e : Evt) : Bn := if e.kind = 7 then Ax e else Ak e
def Hk (f : Evt) (obj id : Bn) : Bool := decide (f.kind = 6 ∨ f.kind = 7) && (decide (Ax f = obj) && decide (id ∈ f.gone.l))
def byG (l : List Evt) (obj id : Bn) : Vc := l.foldl (fun g f => if Hk f obj id = true then A9 g f.rep f.seq else g) fun _ => 0
theorem Q9 (l : List Evt) (f : Evt) (obj id : Bn) : byG (l ++ [f]) obj id = if Hk f obj id = true then A9 (byG l obj id) f.rep f.seq else byG l obj id := by simp [byG]
def C7 (m : List Evt) (e : Evt) : Ent := ⟨Ak e, G9 e, e.name, Ep e, byG m (Ep e) (Ak e)⟩
def C0 (l m : List Evt) : List Ent := m.foldl (fun out e => if mkB e = true then Fa out (C7 l e) false else out) []
theorem Pm (l m : List Evt) (e : Evt) : C0 l (m ++ [e]) = if mkB e = true then Fa (C0 l m) (C7 l e) false else C0 l m := by simp [C0]
theorem R7 : ∀ (l : List Ent) (x : Ent) (b : Bool), (Fa l x b).length ≤ l.length + 1
 | [], x, b => by unfold Fa; split <;> simp
 | y :: l, x, b => by
   unfold Fa;split
   · have := R7 l x true; simp only [List.length_cons]; omega
   · split
     · have : Fa l x true = Fa l x true := rfl;have h2 : ∀ l : List Ent, (Fa l x true).length ≤ l.length := fun l => by
        induction l with
        | nil => simp [Fa]
        | cons z l ih => unfold Fa; split <;> simp <;> omega
       have := h2 l;simp only [List.length_cons]; omega
     · have := R7 l x b; simp only [List.length_cons]; omega
theorem S2 (l : List Evt) : ∀ (n : Nat) (m : List Evt), m.length = n → (C0 l m).length ≤ n
 | 0, m, h => by obtain rfl := List.eq_nil_of_length_eq_zero h; simp [C0]
 | n + 1, m, h => by
   have hne : m ≠ [] := fun e => by subst e; simp at h
   have e1 := (List.dropLast_concat_getLast hne).symm;have h1 := S2 l n m.dropLast (by simp [h]);rw [e1, Pm];split
   · have := R7 (C0 l m.dropLast) (C7 l (m.getLast hne)) false; omega
   · omega
def X4 (f : Bool) (l : List Evt) (k : Nat) : FS := mk [(4, .pv (.i .i64 k)), (3, .os 40), (0, .pv (.sl f 21 (l.map Be)))] [(40, some (.row 15 ((C0 l (l.take k)).map Bp)))]
def Ee (f : Bool) (l : List Evt) (k : Nat) (e : Evt) (j : Nat) : FS := mk [(7, .pv (.i .i64 j)), (4, .pv (.i .i64 k)), (3, .os 40), (6, .p 6 0), (0, .pv (.sl f 21 (l.map Be)))] [(6, some (.var (.vec 15 (Bp (C7 (l.take j) e))))), (40, some (.row 15 ((C0 l (l.take k)).map Bp)))]
set_option maxHeartbeats 8000000 in
theorem Yj {x : SV} {f : Bool} {l : List Evt} {h d} (hx : C2 h [x] = [.pv (.sl f 21 (l.map Be))]) (hl : Bf [x] = true) (hn : l.length ≤ 1000) (hev : ∀ e ∈ l, ev e) : FunOk Tryz.prog 59 [x] h d (.pv (.sl false 15 ((C0 l l).map Bp))) [] := by
 refine Y3 Af fn59 (by simp) hl (Jd _) fun F => ?_;rw [hx];simp (disch := omega) only [ir59, go_sem];refine A1 Af (X4 f l) (fun k => k ≤ l.length) (fun k => l.length - k) 0 (by simp) (Rp 3 40 15 rfl (by omega) (Aj ?_ ?_)) fun k hk => ?_
 · simp (disch := omega) only [go_sem]
 · simp (disch := omega) only [C0, List.take_zero, List.foldl_nil, List.map_nil, go_sem]
 by_cases hlt : k < l.length
 · have hx : l[k]? = some l[k] := List.getElem?_eq_getElem hlt;have he : (l.map Be)[k]? = some (Be l[k]) := by rw [List.getElem?_map, hx]; rfl
   have ht := C3 hx;have hel := Ac l[k];have hsn := Pm l (l.take k) l[k];rw [← ht] at hsn;generalize l[k] = e at *;have hlen := S2 l _ (l.take k) rfl;have hlt' : (l.take k).length ≤ 1000 := by simp; omega
   by_cases hmk : mkB e = true;rotate_left
   · rw [if_neg hmk] at hsn;have hk3 : ¬ (e.kind = 1 ∨ e.kind = 2 ∨ e.kind = 7) := by simpa [mkB] using hmk
     have n1 : ¬ e.kind = 1 := by omega
     have n2 : ¬ e.kind = 2 := by omega
     have n7 : ¬ e.kind = 7 := by omega
     simp (disch := omega) only [X4, List.length_map, he, Bh, hel, Ae, n1, n2, n7, go_sem];refine Ad (k + 1) _ _ rfl (by omega) (by omega) ?_ ?_
     · simp (disch := omega) only [go_sem]
     · simp (disch := omega) only [hsn, go_sem]
   rw [if_pos hmk] at hsn;have hk3 : e.kind = 1 ∨ e.kind = 2 ∨ e.kind = 7 := by simpa [mkB] using hmk
   rcases hk3 with h1 | h2 | h7
   · have hoi : Ep e = Ak e := if_neg (by omega);simp (disch := omega) only [X4, List.length_map, he, Bh, hel, Ae, h1, A5, Dh, Dr, go_sem];refine A1 Af (Ee f l k e) (fun j => j ≤ l.length) (fun j => l.length - j) 0 (by simp) (Aj ?_ ?_) fun j hj => ?_
     · simp (disch := omega) only [go_sem]
     · simp (disch := omega) only [C7, byG, List.take_zero, List.foldl_nil, hoi, go_sem];exact Gl rfl (Dp _)
     by_cases hjl : j < l.length
     · have hx2 : l[j]? = some l[j] := List.getElem?_eq_getElem hjl;have he2 : (l.map Be)[j]? = some (Be l[j]) := by rw [List.getElem?_map, hx2]; rfl
       have ht2 := C3 hx2;have hevj := hev _ (List.getElem_mem hjl);generalize l[j] = g at *;have hB : C7 (l.take (j + 1)) e = if Hk g (Ep e) (Ak e) = true then { C7 (l.take j) e with gone := A9 (C7 (l.take j) e).gone g.rep g.seq } else C7 (l.take j) e := by
        unfold C7; rw [ht2, Q9]; split <;> rfl
       have hob : (C7 (l.take j) e).obj = Ep e := rfl;have hid : (C7 (l.take j) e).id = Ak e := rfl;generalize hX : C7 (l.take j) e = X at *;by_cases hg : g.kind = 6 ∨ g.kind = 7;rotate_left
       · have g6 : ¬ g.kind = 6 := fun q => hg (.inl q);have g7 : ¬ g.kind = 7 := fun q => hg (.inr q);have hgo : ¬ Hk g (Ep e) (Ak e) = true := by unfold Hk; simp [hg]
         rw [if_neg hgo] at hB;simp (disch := omega) only [Ee, hX, List.length_map, he2, Ae, g6, g7, go_sem];refine Ad (j + 1) _ _ rfl (by omega) (by omega) ?_ ?_
         · simp (disch := omega) only [go_sem]
         · simp (disch := omega) only [hB, go_sem]
       have hg' := hg;rcases hg with hg6 | hg7
       · skip
         by_cases ho : Ax g = X.obj;rotate_left
         · have hp := E7 ho;have hgo : ¬ Hk g (Ep e) (Ak e) = true := by
            rw [hob] at ho; unfold Hk; simp [ho]
           rw [if_neg hgo] at hB;simp (disch := omega) only [Ee, hX, List.length_map, he2, Ae, hg6, A7, C4, Ag, Bm, hp, go_sem];refine Ad (j + 1) _ _ rfl (by omega) (by omega) ?_ ?_
           · simp (disch := omega) only [go_sem]
           · simp (disch := omega) only [hB, go_sem]
         have hp := Fh ho;have hpv : g.gone.pv = .sl g.gone.f g.gone.z (g.gone.l.map Ed) := rfl;simp (disch := omega) only [Ee, hX, List.length_map, he2, Ae, hg6, A7, C4, Ag, Bm, hp, F3, Di, go_sem];refine Aa (O9 g.gone X.id hevj.1 hevj.2.2.1) ?_;by_cases hin : X.id ∈ g.gone.l
         · have hgo : Hk g (Ep e) (Ak e) = true := by
            rw [hob] at ho; rw [hid] at hin; unfold Hk; simp [hg', ho, hin]
           rw [if_pos hgo] at hB;have hsp := Gw X (A9 X.gone g.rep g.seq);have hvl := Bi (A9 X.gone g.rep g.seq);simp (disch := omega) only [hin, Ia, List.length_map, he2, A5, go_sem];refine Aa (E1 _ _ _) ?_;simp (disch := omega) only [hsp, hvl, go_sem];refine Ad (j + 1) _ _ rfl (by omega) (by omega) ?_ ?_
           · simp (disch := omega) only [go_sem]
           · simp (disch := omega) only [hB, go_sem]
         · have hgo : ¬ Hk g (Ep e) (Ak e) = true := by
            rw [hid] at hin; unfold Hk; simp [hin]
           rw [if_neg hgo] at hB;simp (disch := omega) only [hin, go_sem];refine Ad (j + 1) _ _ rfl (by omega) (by omega) ?_ ?_
           · simp (disch := omega) only [go_sem]
           · simp (disch := omega) only [hB, go_sem]
       · have g6 : ¬ g.kind = 6 := by omega
         by_cases ho : Ax g = X.obj;rotate_left
         · have hp := E7 ho;have hgo : ¬ Hk g (Ep e) (Ak e) = true := by
            rw [hob] at ho; unfold Hk; simp [ho]
           rw [if_neg hgo] at hB;simp (disch := omega) only [Ee, hX, List.length_map, he2, Ae, g6, hg7, A7, C4, Ag, Bm, hp, go_sem];refine Ad (j + 1) _ _ rfl (by omega) (by omega) ?_ ?_
           · simp (disch := omega) only [go_sem]
           · simp (disch := omega) only [hB, go_sem]
         have hp := Fh ho;have hpv : g.gone.pv = .sl g.gone.f g.gone.z (g.gone.l.map Ed) := rfl;simp (disch := omega) only [Ee, hX, List.length_map, he2, Ae, g6, hg7, A7, C4, Ag, Bm, hp, F3, Di, go_sem];refine Aa (O9 g.gone X.id hevj.1 hevj.2.2.1) ?_;by_cases hin : X.id ∈ g.gone.l
         · have hgo : Hk g (Ep e) (Ak e) = true := by
            rw [hob] at ho; rw [hid] at hin; unfold Hk; simp [hg', ho, hin]
           rw [if_pos hgo] at hB;have hsp := Gw X (A9 X.gone g.rep g.seq);have hvl := Bi (A9 X.gone g.rep g.seq);simp (disch := omega) only [hin, Ia, List.length_map, he2, A5, go_sem];refine Aa (E1 _ _ _) ?_;simp (disch := omega) only [hsp, hvl, go_sem];refine Ad (j + 1) _ _ rfl (by omega) (by omega) ?_ ?_
           · simp (disch := omega) only [go_sem]
           · simp (disch := omega) only [hB, go_sem]
         · have hgo : ¬ Hk g (Ep e) (Ak e) = true := by
            rw [hid] at hin; unfold Hk; simp [hin]
           rw [if_neg hgo] at hB;simp (disch := omega) only [hin, go_sem];refine Ad (j + 1) _ _ rfl (by omega) (by omega) ?_ ?_
           · simp (disch := omega) only [go_sem]
           · simp (disch := omega) only [hB, go_sem]
     · obtain rfl : j = l.length := by omega
       have htk : l.take l.length = l := List.take_length;simp (disch := omega) only [Ee, List.length_map, htk, Fp, go_sem];refine Aa (Aar (l := C0 l (l.take k)) (C7 l e) rfl rfl (by omega)) ?_;simp (disch := omega) only [go_sem];refine ⟨k + 1, by omega, by omega, D7 40 rfl (D6 99 40 (by decide) rfl (Aj ?_ ?_))⟩
       · simp (disch := omega) only [go_sem]
       · simp (disch := omega) only [hsn, go_sem]
   · have hoi : Ep e = Ak e := if_neg (by omega);have n1 : ¬ e.kind = 1 := by omega
     simp (disch := omega) only [X4, List.length_map, he, Bh, hel, Ae, n1, h2, A5, Dh, Dr, go_sem];refine A1 Af (Ee f l k e) (fun j => j ≤ l.length) (fun j => l.length - j) 0 (by simp) (Aj ?_ ?_) fun j hj => ?_
     · simp (disch := omega) only [go_sem]
     · simp (disch := omega) only [C7, byG, List.take_zero, List.foldl_nil, hoi, go_sem];exact Gl rfl (Dp _)
     by_cases hjl : j < l.length
     · have hx2 : l[j]? = some l[j] := List.getElem?_eq_getElem hjl;have he2 : (l.map Be)[j]? = some (Be l[j]) := by rw [List.getElem?_map, hx2]; rfl
       have ht2 := C3 hx2;have hevj := hev _ (List.getElem_mem hjl);generalize l[j] = g at *;have hB : C7 (l.take (j + 1)) e = if Hk g (Ep e) (Ak e) = true then { C7 (l.take j) e with gone := A9 (C7 (l.take j) e).gone g.rep g.seq } else C7 (l.take j) e := by
        unfold C7; rw [ht2, Q9]; split <;> rfl
       have hob : (C7 (l.take j) e).obj = Ep e := rfl;have hid : (C7 (l.take j) e).id = Ak e := rfl;generalize hX : C7 (l.take j) e = X at *;by_cases hg : g.kind = 6 ∨ g.kind = 7;rotate_left
       · have g6 : ¬ g.kind = 6 := fun q => hg (.inl q);have g7 : ¬ g.kind = 7 := fun q => hg (.inr q);have hgo : ¬ Hk g (Ep e) (Ak e) = true := by unfold Hk; simp [hg]
         rw [if_neg hgo] at hB;simp (disch := omega) only [Ee, hX, List.length_map, he2, Ae, g6, g7, go_sem];refine Ad (j + 1) _ _ rfl (by omega) (by omega) ?_ ?_
         · simp (disch := omega) only [go_sem]
         · simp (disch := omega) only [hB, go_sem]
       have hg' := hg;rcases hg with hg6 | hg7
       · skip
         by_cases ho : Ax g = X.obj;rotate_left
         · have hp := E7 ho;have hgo : ¬ Hk g (Ep e) (Ak e) = true := by
            rw [hob] at ho; unfold Hk; simp [ho]
           rw [if_neg hgo] at hB;simp (disch := omega) only [Ee, hX, List.length_map, he2, Ae, hg6, A7, C4, Ag, Bm, hp, go_sem];refine Ad (j + 1) _ _ rfl (by omega) (by omega) ?_ ?_
           · simp (disch := omega) only [go_sem]
           · simp (disch := omega) only [hB, go_sem]
         have hp := Fh ho;have hpv : g.gone.pv = .sl g.gone.f g.gone.z (g.gone.l.map Ed) := rfl;simp (disch := omega) only [Ee, hX, List.length_map, he2, Ae, hg6, A7, C4, Ag, Bm, hp, F3, Di, go_sem];refine Aa (O9 g.gone X.id hevj.1 hevj.2.2.1) ?_;by_cases hin : X.id ∈ g.gone.l
         · have hgo : Hk g (Ep e) (Ak e) = true := by
            rw [hob] at ho; rw [hid] at hin; unfold Hk; simp [hg', ho, hin]
           rw [if_pos hgo] at hB;have hsp := Gw X (A9 X.gone g.rep g.seq);have hvl := Bi (A9 X.gone g.rep g.seq);simp (disch := omega) only [hin, Ia, List.length_map, he2, A5, go_sem];refine Aa (E1 _ _ _) ?_;simp (disch := omega) only [hsp, hvl, go_sem];refine Ad (j + 1) _ _ rfl (by omega) (by omega) ?_ ?_
           · simp (disch := omega) only [go_sem]
           · simp (disch := omega) only [hB, go_sem]
         · have hgo : ¬ Hk g (Ep e) (Ak e) = true := by
            rw [hid] at hin; unfold Hk; simp [hin]
           rw [if_neg hgo] at hB;simp (disch := omega) only [hin, go_sem];refine Ad (j + 1) _ _ rfl (by omega) (by omega) ?_ ?_
           · simp (disch := omega) only [go_sem]
           · simp (disch := omega) only [hB, go_sem]
       · have g6 : ¬ g.kind = 6 := by omega
         by_cases ho : Ax g = X.obj;rotate_left
         · have hp := E7 ho;have hgo : ¬ Hk g (Ep e) (Ak e) = true := by
            rw [hob] at ho; unfold Hk; simp [ho]
           rw [if_neg hgo] at hB;simp (disch := omega) only [Ee, hX, List.length_map, he2, Ae, g6, hg7, A7, C4, Ag, Bm, hp, go_sem];refine Ad (j + 1) _ _ rfl (by omega) (by omega) ?_ ?_
           · simp (disch := omega) only [go_sem]
           · simp (disch := omega) only [hB, go_sem]
         have hp := Fh ho;have hpv : g.gone.pv = .sl g.gone.f g.gone.z (g.gone.l.map Ed) := rfl;simp (disch := omega) only [Ee, hX, List.length_map, he2, Ae, g6, hg7, A7, C4, Ag, Bm, hp, F3, Di, go_sem];refine Aa (O9 g.gone X.id hevj.1 hevj.2.2.1) ?_;by_cases hin : X.id ∈ g.gone.l
         · have hgo : Hk g (Ep e) (Ak e) = true := by
            rw [hob] at ho; rw [hid] at hin; unfold Hk; simp [hg', ho, hin]
           rw [if_pos hgo] at hB;have hsp := Gw X (A9 X.gone g.rep g.seq);have hvl := Bi (A9 X.gone g.rep g.seq);simp (disch := omega) only [hin, Ia, List.length_map, he2, A5, go_sem];refine Aa (E1 _ _ _) ?_;simp (disch := omega) only [hsp, hvl, go_sem];refine Ad (j + 1) _ _ rfl (by omega) (by omega) ?_ ?_
           · simp (disch := omega) only [go_sem]
           · simp (disch := omega) only [hB, go_sem]
         · have hgo : ¬ Hk g (Ep e) (Ak e) = true := by
            rw [hid] at hin; unfold Hk; simp [hin]
           rw [if_neg hgo] at hB;simp (disch := omega) only [hin, go_sem];refine Ad (j + 1) _ _ rfl (by omega) (by omega) ?_ ?_
           · simp (disch := omega) only [go_sem]
           · simp (disch := omega) only [hB, go_sem]
     · obtain rfl : j = l.length := by omega
       have htk : l.take l.length = l := List.take_length;simp (disch := omega) only [Ee, List.length_map, htk, Fp, go_sem];refine Aa (Aar (l := C0 l (l.take k)) (C7 l e) rfl rfl (by omega)) ?_;simp (disch := omega) only [go_sem];refine ⟨k + 1, by omega, by omega, D7 40 rfl (D6 99 40 (by decide) rfl (Aj ?_ ?_))⟩
       · simp (disch := omega) only [go_sem]
       · simp (disch := omega) only [hsn, go_sem]
   · have hoi : Ep e = Ax e := if_pos h7;have n1 : ¬ e.kind = 1 := by omega
     have n2 : ¬ e.kind = 2 := by omega
     simp (disch := omega) only [X4, List.length_map, he, Bh, hel, Ae, n1, n2, h7, A5, Dh, Dr, A7, go_sem];refine A1 Af (Ee f l k e) (fun j => j ≤ l.length) (fun j => l.length - j) 0 (by simp) (Aj ?_ ?_) fun j hj => ?_
     · simp (disch := omega) only [go_sem]
     · simp (disch := omega) only [C7, byG, List.take_zero, List.foldl_nil, hoi, go_sem];exact Gl rfl (Dp _)
     by_cases hjl : j < l.length
     · have hx2 : l[j]? = some l[j] := List.getElem?_eq_getElem hjl;have he2 : (l.map Be)[j]? = some (Be l[j]) := by rw [List.getElem?_map, hx2]; rfl
       have ht2 := C3 hx2;have hevj := hev _ (List.getElem_mem hjl);generalize l[j] = g at *;have hB : C7 (l.take (j + 1)) e = if Hk g (Ep e) (Ak e) = true then { C7 (l.take j) e with gone := A9 (C7 (l.take j) e).gone g.rep g.seq } else C7 (l.take j) e := by
        unfold C7; rw [ht2, Q9]; split <;> rfl
       have hob : (C7 (l.take j) e).obj = Ep e := rfl;have hid : (C7 (l.take j) e).id = Ak e := rfl;generalize hX : C7 (l.take j) e = X at *;by_cases hg : g.kind = 6 ∨ g.kind = 7;rotate_left
       · have g6 : ¬ g.kind = 6 := fun q => hg (.inl q);have g7 : ¬ g.kind = 7 := fun q => hg (.inr q);have hgo : ¬ Hk g (Ep e) (Ak e) = true := by unfold Hk; simp [hg]
         rw [if_neg hgo] at hB;simp (disch := omega) only [Ee, hX, List.length_map, he2, Ae, g6, g7, go_sem];refine Ad (j + 1) _ _ rfl (by omega) (by omega) ?_ ?_
         · simp (disch := omega) only [go_sem]
         · simp (disch := omega) only [hB, go_sem]
       have hg' := hg;rcases hg with hg6 | hg7
       · skip
         by_cases ho : Ax g = X.obj;rotate_left
         · have hp := E7 ho;have hgo : ¬ Hk g (Ep e) (Ak e) = true := by
            rw [hob] at ho; unfold Hk; simp [ho]
           rw [if_neg hgo] at hB;simp (disch := omega) only [Ee, hX, List.length_map, he2, Ae, hg6, A7, C4, Ag, Bm, hp, go_sem];refine Ad (j + 1) _ _ rfl (by omega) (by omega) ?_ ?_
           · simp (disch := omega) only [go_sem]
           · simp (disch := omega) only [hB, go_sem]
         have hp := Fh ho;have hpv : g.gone.pv = .sl g.gone.f g.gone.z (g.gone.l.map Ed) := rfl;simp (disch := omega) only [Ee, hX, List.length_map, he2, Ae, hg6, A7, C4, Ag, Bm, hp, F3, Di, go_sem];refine Aa (O9 g.gone X.id hevj.1 hevj.2.2.1) ?_;by_cases hin : X.id ∈ g.gone.l
         · have hgo : Hk g (Ep e) (Ak e) = true := by
            rw [hob] at ho; rw [hid] at hin; unfold Hk; simp [hg', ho, hin]
           rw [if_pos hgo] at hB;have hsp := Gw X (A9 X.gone g.rep g.seq);have hvl := Bi (A9 X.gone g.rep g.seq);simp (disch := omega) only [hin, Ia, List.length_map, he2, A5, go_sem];refine Aa (E1 _ _ _) ?_;simp (disch := omega) only [hsp, hvl, go_sem];refine Ad (j + 1) _ _ rfl (by omega) (by omega) ?_ ?_
           · simp (disch := omega) only [go_sem]
           · simp (disch := omega) only [hB, go_sem]
         · have hgo : ¬ Hk g (Ep e) (Ak e) = true := by
            rw [hid] at hin; unfold Hk; simp [hin]
           rw [if_neg hgo] at hB;simp (disch := omega) only [hin, go_sem];refine Ad (j + 1) _ _ rfl (by omega) (by omega) ?_ ?_
           · simp (disch := omega) only [go_sem]
           · simp (disch := omega) only [hB, go_sem]
       · have g6 : ¬ g.kind = 6 := by omega
         by_cases ho : Ax g = X.obj;rotate_left
         · have hp := E7 ho;have hgo : ¬ Hk g (Ep e) (Ak e) = true := by
            rw [hob] at ho; unfold Hk; simp [ho]
           rw [if_neg hgo] at hB;simp (disch := omega) only [Ee, hX, List.length_map, he2, Ae, g6, hg7, A7, C4, Ag, Bm, hp, go_sem];refine Ad (j + 1) _ _ rfl (by omega) (by omega) ?_ ?_
           · simp (disch := omega) only [go_sem]
           · simp (disch := omega) only [hB, go_sem]
         have hp := Fh ho;have hpv : g.gone.pv = .sl g.gone.f g.gone.z (g.gone.l.map Ed) := rfl;simp (disch := omega) only [Ee, hX, List.length_map, he2, Ae, g6, hg7, A7, C4, Ag, Bm, hp, F3, Di, go_sem];refine Aa (O9 g.gone X.id hevj.1 hevj.2.2.1) ?_;by_cases hin : X.id ∈ g.gone.l
         · have hgo : Hk g (Ep e) (Ak e) = true := by
            rw [hob] at ho; rw [hid] at hin; unfold Hk; simp [hg', ho, hin]
           rw [if_pos hgo] at hB;have hsp := Gw X (A9 X.gone g.rep g.seq);have hvl := Bi (A9 X.gone g.rep g.seq);simp (disch := omega) only [hin, Ia, List.length_map, he2, A5, go_sem];refine Aa (E1 _ _ _) ?_;simp (disch := omega) only [hsp, hvl, go_sem];refine Ad (j + 1) _ _ rfl (by omega) (by omega) ?_ ?_
           · simp (disch := omega) only [go_sem]
           · simp (disch := omega) only [hB, go_sem]
         · have hgo : ¬ Hk g (Ep e) (Ak e) = true := by
            rw [hid] at hin; unfold Hk; simp [hin]
           rw [if_neg hgo] at hB;simp (disch := omega) only [hin, go_sem];refine Ad (j + 1) _ _ rfl (by omega) (by omega) ?_ ?_
           · simp (disch := omega) only [go_sem]
           · simp (disch := omega) only [hB, go_sem]
     · obtain rfl : j = l.length := by omega
       have htk : l.take l.length = l := List.take_length;simp (disch := omega) only [Ee, List.length_map, htk, Fp, go_sem];refine Aa (Aar (l := C0 l (l.take k)) (C7 l e) rfl rfl (by omega)) ?_;simp (disch := omega) only [go_sem];refine ⟨k + 1, by omega, by omega, D7 40 rfl (D6 99 40 (by decide) rfl (Aj ?_ ?_))⟩
       · simp (disch := omega) only [go_sem]
       · simp (disch := omega) only [hsn, go_sem]
 · obtain rfl : k = l.length := by omega
   have htk : l.take l.length = l := List.take_length;simp (disch := omega) only [X4, List.length_map, htk, go_sem]
theorem A1x {x y : SV} {f g : Bool} {l : List Ver} {bs : List Bn} {v : Ver} {h d} (hx : C2 h [x, y, .vec 11 (Bd v)] = [.pv (.sl f 11 (l.map Bd)), .pv (.sl g 2 (bs.map Ed)), .vec 11 (Bd v)]) (hl : Bf [x, y, .vec 11 (Bd v)] = true)
 (hs : Cu l) (hn : l.length ≤ 900) (hbn : bs.length ≤ 900) (hm : ¬ Dg l bs) (ho : Bo l v.rep v.seq = none) :
 FunOk Tryz.prog 134 [x, y, .vec 11 (Bd v)] h d (.tup [.os d, .pv (.i .i64 0)]) [.new d (.row 11 ((Fe l bs v).map Bd))] := by
 refine Asa Af fn134 (by simp) hl (.inr (X2 _)) rfl fun F => ?_;rw [hx];exact Aub hs hn hbn (fun h => absurd h hm) (fun _ h => by rw [ho] at h; cases h) (fun _ _ g n hg => ⟨n, rfl, hg⟩)
def Oz (e : Evt) : Bool := decide (e.kind = 3 ∨ e.kind = 4 ∨ e.kind = 5)
def Y0 (g : Evt) (obj id : Bn) : Bool := Oz g && (decide (Ax g = obj) && decide (id ∈ g.base.l))
def gvG (l : List Evt) (obj id : Bn) : Vc := l.foldl (fun a g => if Y0 g obj id = true then A9 a g.rep g.seq else a) fun _ => 0
theorem Ad5 (l : List Evt) (g : Evt) (obj id : Bn) : gvG (l ++ [g]) obj id = if Y0 g obj id = true then A9 (gvG l obj id) g.rep g.seq else gvG l obj id := by simp [gvG]
noncomputable def Gp (l m : List Evt) (e : Evt) : Ver := ⟨e.rep, e.seq, Dc l l.length (Ak e), gvG m (Ax e) (Ak e)⟩
noncomputable def Cx (l : List Evt) (obj : Bn) (m : List Evt) : List Ver := m.foldl (fun out e => if Oz e = true ∧ Ax e = obj then Fe out [] (Gp l l e) else out) []
theorem O1 (l : List Evt) (obj : Bn) (m : List Evt) (e : Evt) : Cx l obj (m ++ [e]) = if Oz e = true ∧ Ax e = obj then Fe (Cx l obj m) [] (Gp l l e) else Cx l obj m := by simp [Cx]
theorem Alb {l : List Ver} {v x : Ver} : x ∈ Fe l [] v ↔ x = v ∨ x ∈ l := by
 unfold Fe; rw [Ny];simp only [List.mem_append, List.mem_cons];have : x ∈ l ↔ x ∈ l.take (Ps l v.rep v.seq 0).1 ∨ x ∈ l.drop (Ps l v.rep v.seq 0).1 := by
  rw [← List.mem_append, List.take_append_drop]
 rw [this];constructor
 · rintro (h | h | h)
   · exact .inr (.inl h)
   · exact .inl h
   · exact .inr (.inr h)
 · rintro (h | h | h)
   · exact .inr (.inl h)
   · exact .inl h
   · exact .inr (.inr h)
theorem Anj (l : List Ver) (v : Ver) : (Fe l [] v).length = l.length + 1 := by
 unfold Fe; rw [Ny];simp only [List.length_append, List.length_take, List.length_cons, List.length_drop]; omega
theorem Abv {l : List Ver} {v : Ver} (hs : Cu l) (hn : Bo l v.rep v.seq = none) : Cu (Fe l [] v) := by
 unfold Fe; rw [Ny];have hfalse : Ps l v.rep v.seq 0 = ((Ps l v.rep v.seq 0).1, false) := by
  rcases h : Ps l v.rep v.seq 0 with ⟨i, b⟩
  cases b with
  | false => rfl
  | true =>
    obtain ⟨_, u, _, _, h4⟩ := Ik h;rw [hn] at h4; cases h4
 obtain ⟨_, _, _, _, h5, h6⟩ := Hu hs hfalse;generalize (Ps l v.rep v.seq 0).1 = p at *;simp only [Nat.sub_zero] at h5 h6;refine List.pairwise_append.2 ⟨hs.sublist (List.take_sublist _ _), List.pairwise_cons.2 ⟨fun u hu => h6 u hu, hs.sublist (List.drop_sublist _ _)⟩, fun a ha b hb => ?_⟩;rcases List.mem_cons.1 hb with rfl | hb
 · exact h5 a ha
 · have := h5 a ha;exact Ph this (h6 b hb)
theorem Nm {l : List Evt} {obj : Bn} {v : Ver} : ∀ (n : Nat) (m : List Evt), m.length = n → (v ∈ Cx l obj m ↔ ∃ e ∈ m, (Oz e = true ∧ Ax e = obj) ∧ v = Gp l l e)
 | 0, m, h => by obtain rfl := List.eq_nil_of_length_eq_zero h; simp [Cx]
 | n + 1, m, h => by
   have hne : m ≠ [] := fun e => by subst e; simp at h
   have e1 := (List.dropLast_concat_getLast hne).symm;have ih := Nm (l := l) (obj := obj) (v := v) n m.dropLast (by simp [h]);rw [e1, O1];generalize m.getLast hne = e at *;generalize m.dropLast = m' at *;split
   · rename_i hc;rw [Alb, ih];constructor
     · rintro (rfl | ⟨f, h1, h2⟩)
       · exact ⟨e, by simp, hc, rfl⟩
       · exact ⟨f, by simp [h1], h2⟩
     · rintro ⟨f, h1, h2, h3⟩;rcases List.mem_append.1 h1 with h1 | h1
       · exact .inr ⟨f, h1, h2, h3⟩
       · rw [List.mem_singleton] at h1; subst h1; exact .inl h3
   · rename_i hc;rw [ih];constructor
     · rintro ⟨f, h1, h2⟩; exact ⟨f, by simp [h1], h2⟩
     · rintro ⟨f, h1, h2, h3⟩;rcases List.mem_append.1 h1 with h1 | h1
       · exact ⟨f, h1, h2, h3⟩
       · rw [List.mem_singleton] at h1; subst h1; exact absurd h2 hc
def NodE (l : List Evt) : Prop := (l.map Ak).Nodup
theorem X1 {l m : List Evt} {obj : Bn} {e : Evt} (hn : NodE (m ++ [e])) : Bo (Cx l obj m) e.rep e.seq = none := by
 rw [Pj];intro v hv ⟨h1, h2⟩;obtain ⟨f, hf, _, rfl⟩ := (Nm m.length m rfl).1 hv;have : Ak f = Ak e := Prod.ext h1 h2;unfold NodE at hn;rw [List.map_append, List.nodup_append] at hn;exact hn.2.2 (Ak f) (List.mem_map_of_mem hf) (Ak e) (by simp) this
theorem NodE.take {l : List Evt} (h : NodE l) (k : Nat) : NodE (l.take k) := by
 unfold NodE at *; rw [List.map_take]; exact h.sublist (List.take_sublist _ _)
theorem I1 {l : List Evt} {obj : Bn} : ∀ (n : Nat) (m : List Evt), m.length = n → NodE m → Cu (Cx l obj m) ∧ (Cx l obj m).length ≤ n
 | 0, m, h, _ => by obtain rfl := List.eq_nil_of_length_eq_zero h; exact ⟨List.Pairwise.nil, by simp [Cx]⟩
 | n + 1, m, h, hn => by
   have hne : m ≠ [] := fun e => by subst e; simp at h
   have e1 := (List.dropLast_concat_getLast hne).symm;have hn' : NodE m.dropLast := by unfold NodE at *; rw [List.map_dropLast]; exact hn.sublist (List.dropLast_sublist _)
   obtain ⟨h1, h2⟩ := I1 (l := l) (obj := obj) n m.dropLast (by simp [h]) hn';rw [e1] at hn ⊢;rw [O1];split
   · exact ⟨Abv h1 (X1 hn), by rw [Anj]; omega⟩
   · exact ⟨h1, by omega⟩
theorem Awa {l : List Ver} {v : Ver} (hs : Cu l) (hn : l.length ≤ 900) (ho : Bo l v.rep v.seq = none) {h d} (hh : h 40 = some (.row 11 (l.map Bd))) :
 FunOk Tryz.prog 134 [.os 40, .pv (.sl true 0 []), .vec 11 (Bd v)] h d (.tup [.os d, .pv (.i .i64 0)]) [.new d (.row 11 ((Fe l [] v).map Bd))] := by
 refine FunOk.imp (args' := [.os 40, .pv (.sl true 2 []), .vec 11 (Bd v)]) ?_ ⟨Imp.refl _, Su (G4 id (.inl rfl) (.refl _)), Imp.refl _, trivial⟩ (by simp [A4, tn]);exact A1x (f := false) (g := true) (l := l) (bs := []) (by simp only [C2, Mj, hh]; rfl) rfl hs hn (by simp) (fun ⟨b, hb, _⟩ => by simp at hb) ho
structure EvsOk (l : List Evt) (rk : Evt → Nat) : Prop where
 len : l.length ≤ 400
 nod : NodE l
 ev : ∀ e ∈ l, ev e ∧ e.data.length ≤ 1000
 grd : Grd l rk
 rk : ∀ e ∈ l, rk e < l.length
noncomputable def Aoa (f : Bool) (l : List Evt) (o : Bn) (k : Nat) : FS := mk [(6, .pv (.i .i64 k)), (5, .os 40), (0, .pv (.sl f 21 (l.map Be))), (3, .p 3 0)] [(3, some (.var (.vec 2 [.i .i64 o.1, .i .u32 o.2]))), (40, some (.row 11 ((Cx l o (l.take k)).map Bd)))]
noncomputable def Acg (f : Bool) (l : List Evt) (o : Bn) (k : Nat) (e : Evt) (j : Nat) : FS := mk [(8, .pv (.i .i64 j)), (6, .pv (.i .i64 k)), (5, .os 40), (7, .p 7 0), (0, .pv (.sl f 21 (l.map Be))), (3, .p 3 0)] [(7, some (.var (.vec 11 (Bd (Gp l (l.take j) e))))), (3, some (.var (.vec 2 [.i .i64 o.1, .i .u32 o.2]))), (40, some (.row 11 ((Cx l o (l.take k)).map Bd)))]
theorem Anz (r : Int) (q : Nat) (s : List UInt8) (g : Vc) : Imp (.agg [.vec 2 [.i .i64 r, .i .u32 q], .pv (.s s), .vec 8 (vE g)]) (.vec 11 (Bd ⟨r, q, s, g⟩)) := Gl (by rfl) (G2 _)
set_option maxHeartbeats 8000000 in
theorem V9 {x : SV} {f : Bool} {l : List Evt} {rk : Evt → Nat} (o : Bn) {h d} (hx : C2 h [x, .vec 2 [.i .i64 o.1, .i .u32 o.2]] = [.pv (.sl f 21 (l.map Be)), .vec 2 [.i .i64 o.1, .i .u32 o.2]]) (hl : Bf [x, .vec 2 [.i .i64 o.1, .i .u32 o.2]] = true) (hE : EvsOk l rk) : FunOk Tryz.prog 101 [x, .vec 2 [.i .i64 o.1, .i .u32 o.2]] h d (.pv (.sl false 11 ((Cx l o l).map Bd))) [] := by
 refine Y3 Af fn101 (by simp) hl (X2 _) fun F => ?_;rw [hx];have hn := hE.len;simp (disch := omega) only [ir101, go_sem];refine A1 Af (Aoa f l o) (fun k => k ≤ l.length) (fun k => l.length - k) 0 (by simp) (Rp 5 40 11 rfl (by omega) (Aj ?_ ?_)) fun k hk => ?_
 · simp (disch := omega) only [go_sem]
 · simp (disch := omega) only [Cx, List.take_zero, List.foldl_nil, List.map_nil, go_sem]
 by_cases hlt : k < l.length
 · have hx : l[k]? = some l[k] := List.getElem?_eq_getElem hlt;have he : (l.map Be)[k]? = some (Be l[k]) := by rw [List.getElem?_map, hx]; rfl
   have ht := C3 hx;have hsn := O1 l o (l.take k) l[k];have hnd := hE.nod.take (k + 1);rw [ht] at hnd;rw [← ht] at hsn;have hmem := List.getElem_mem hlt;generalize l[k] = e at *;obtain ⟨hso, hle⟩ := I1 (l := l) (obj := o) _ (l.take k) rfl (hE.nod.take k);have hle' : (l.take k).length ≤ 400 := by simp; omega
   have hnew := X1 (l := l) (obj := o) hnd;have hwb : Oz e = decide (e.kind = 3 ∨ e.kind = 4 ∨ e.kind = 5) := rfl;by_cases hw : Oz e = true;rotate_left
   · rw [if_neg (fun q => hw q.1)] at hsn;have hw' : Oz e = false := by simpa using hw
     simp (disch := omega) only [Aoa, List.length_map, he, Bh, go_sem];refine Aa (Kt e) ?_;rw [← hwb, hw'];simp (disch := omega) only [go_sem];refine Ad (k + 1) _ _ rfl (by omega) (by omega) ?_ ?_
     · simp (disch := omega) only [go_sem]
     · simp (disch := omega) only [hsn, go_sem]
   by_cases ho : Ax e = o;rotate_left
   · rw [if_neg (fun q => ho q.2)] at hsn;have hp := E7 ho;simp (disch := omega) only [Aoa, List.length_map, he, Bh, go_sem];refine Aa (Kt e) ?_;rw [← hwb, hw];simp (disch := omega) only [he, A7, Ag, Bm, hp, List.length_map, go_sem];refine Ad (k + 1) _ _ rfl (by omega) (by omega) ?_ ?_
     · simp (disch := omega) only [go_sem]
     · simp (disch := omega) only [hsn, go_sem]
   rw [if_pos ⟨hw, ho⟩] at hsn;have hp := Fh ho;simp (disch := omega) only [Aoa, List.length_map, he, Bh, go_sem];refine Aa (Kt e) ?_;rw [← hwb, hw];simp (disch := omega) only [he, A7, Ag, Bm, hp, List.length_map, A5, go_sem];refine Aa (Adc (rk := rk) hE.grd (by omega) hE.ev l.length (Ak e) (fun e' he' => hE.rk e' (List.mem_of_find?_eq_some he')) _ f _ _ rfl rfl) ?_;simp (disch := omega) only [go_sem];refine A1 Af (Acg f l o k e) (fun j => j ≤ l.length) (fun j => l.length - j) 0 (by simp) (Aj ?_ ?_) fun j hj => ?_
   · simp (disch := omega) only [go_sem]
   · simp (disch := omega) only [Gp, gvG, List.take_zero, List.foldl_nil, go_sem];exact Anz _ _ _ _
   by_cases hjl : j < l.length
   · have hx2 : l[j]? = some l[j] := List.getElem?_eq_getElem hjl;have he2 : (l.map Be)[j]? = some (Be l[j]) := by rw [List.getElem?_map, hx2]; rfl
     have ht2 := C3 hx2;have hevj := (hE.ev _ (List.getElem_mem hjl)).1;generalize l[j] = g at *;have hB : Gp l (l.take (j + 1)) e = if Y0 g (Ax e) (Ak e) = true then { Gp l (l.take j) e with gone := A9 (Gp l (l.take j) e).gone g.rep g.seq } else Gp l (l.take j) e := by
      unfold Gp; rw [ht2, Ad5]; split <;> rfl
     have hid : ((Gp l (l.take j) e).rep, (Gp l (l.take j) e).seq) = Ak e := rfl;generalize hX : Gp l (l.take j) e = X at *;have hwg : Oz g = decide (g.kind = 3 ∨ g.kind = 4 ∨ g.kind = 5) := rfl;by_cases hg : Oz g = true;rotate_left
     · have hgo : ¬ Y0 g (Ax e) (Ak e) = true := by unfold Y0; simp [hg]
       have hg' : Oz g = false := by simpa using hg
       rw [if_neg hgo] at hB;simp (disch := omega) only [Acg, hX, List.length_map, he2, Bh, go_sem];refine Aa (Kt g) ?_;rw [← hwg, hg'];simp (disch := omega) only [go_sem];refine Ad (j + 1) _ _ rfl (by omega) (by omega) ?_ ?_
       · simp (disch := omega) only [go_sem]
       · simp (disch := omega) only [hB, go_sem]
     by_cases hog : Ax g = o;rotate_left
     · have hp2 := E7 hog;have hgo : ¬ Y0 g (Ax e) (Ak e) = true := by rw [← ho] at hog; unfold Y0; simp [hog]
       rw [if_neg hgo] at hB;simp (disch := omega) only [Acg, hX, List.length_map, he2, Bh, go_sem];refine Aa (Kt g) ?_;rw [← hwg, hg];simp (disch := omega) only [List.length_map, he2, A7, Ag, Bm, hp2, go_sem];refine Ad (j + 1) _ _ rfl (by omega) (by omega) ?_ ?_
       · simp (disch := omega) only [go_sem]
       · simp (disch := omega) only [hB, go_sem]
     have hp2 := Fh hog;have hpv : g.base.pv = .sl g.base.f g.base.z (g.base.l.map Ed) := rfl;simp (disch := omega) only [Acg, hX, List.length_map, he2, Bh, go_sem];refine Aa (Kt g) ?_;rw [← hwg, hg];simp (disch := omega) only [List.length_map, he2, A7, Ag, Bm, hp2, Fb, Cz, go_sem];refine Aa (O9 g.base (X.rep, X.seq) hevj.2.1 hevj.2.2.2.1) ?_;by_cases hin : (X.rep, X.seq) ∈ g.base.l
     · have hgo : Y0 g (Ax e) (Ak e) = true := by
        rw [hid] at hin; unfold Y0; simp [hg, hog, ho, hin]
       rw [if_pos hgo] at hB;have hsp := Jg X (A9 X.gone g.rep g.seq);have hvl := Bi (A9 X.gone g.rep g.seq);simp (disch := omega) only [hin, M1, List.length_map, he2, A5, go_sem];refine Aa (E1 _ _ _) ?_;simp (disch := omega) only [hsp, hvl, go_sem];refine Ad (j + 1) _ _ rfl (by omega) (by omega) ?_ ?_
       · simp (disch := omega) only [go_sem]
       · simp (disch := omega) only [hB, go_sem]
     · have hgo : ¬ Y0 g (Ax e) (Ak e) = true := by
        rw [hid] at hin; unfold Y0; simp [hin]
       rw [if_neg hgo] at hB;simp (disch := omega) only [hin, go_sem];refine Ad (j + 1) _ _ rfl (by omega) (by omega) ?_ ?_
       · simp (disch := omega) only [go_sem]
       · simp (disch := omega) only [hB, go_sem]
   · obtain rfl : j = l.length := by omega
     have htk : l.take l.length = l := List.take_length;simp (disch := omega) only [Acg, List.length_map, htk, Ln, go_sem];refine Aa (Awa (l := Cx l o (l.take k)) (v := Gp l l e) hso (by omega) hnew rfl) ?_;simp (disch := omega) only [go_sem];refine ⟨k + 1, by omega, by omega, D7 40 rfl (D6 85 40 (by decide) rfl (Aj ?_ ?_))⟩
     · simp (disch := omega) only [go_sem]
     · simp (disch := omega) only [hsn, go_sem]
 · obtain rfl : k = l.length := by omega
   have htk : l.take l.length = l := List.take_length;simp (disch := omega) only [Aoa, List.length_map, htk, go_sem]
mutual
theorem Acs {π : Nat → Nat} : ∀ {x : SV}, x.closed = true → x.rn π = x
 | .pv _, _ => rfl
 | .vec _ _, _ => rfl
 | .pi _ _ _ _, _ => rfl
 | .dead, _ => rfl
 | .agg l, h => by simp only [SV.closed] at h; simp only [SV.rn, R5 h]
 | .tup l, h => by simp only [SV.closed] at h; simp only [SV.rn, R5 h]
 | .fn f l, h => by simp only [SV.closed] at h; simp only [SV.rn, R5 h]
 | .p _ _, h => by simp [SV.closed] at h
 | .ps _ _, h => by simp [SV.closed] at h
 | .pr _ _ _ _, h => by simp [SV.closed] at h
 | .os _, h => by simp [SV.closed] at h
 | .ov _ _ _ _, h => by simp [SV.closed] at h
theorem R5 {π : Nat → Nat} : ∀ {l : List SV}, SV.closedL l = true → SV.rnL π l = l
 | [], _ => rfl
 | x :: l, h => by
   simp only [SV.closedL, Bool.and_eq_true] at h;simp only [SV.rnL, Acs h.1, R5 h.2]
end
mutual
theorem A45 : ∀ {x : SV}, x.closed = true → tn x = []
 | .pv _, _ => rfl
 | .vec _ _, _ => rfl
 | .pi _ _ _ _, _ => rfl
 | .dead, _ => rfl
 | .agg l, h => by simp only [SV.closed] at h; simp only [tn, Nr h]
 | .tup l, h => by simp only [SV.closed] at h; simp only [tn, Nr h]
 | .fn f l, h => by simp only [SV.closed] at h; simp only [tn, Nr h]
 | .p _ _, h => by simp [SV.closed] at h
 | .ps _ _, h => by simp [SV.closed] at h
 | .pr _ _ _ _, h => by simp [SV.closed] at h
 | .os _, h => by simp [SV.closed] at h
 | .ov _ _ _ _, h => by simp [SV.closed] at h
theorem Nr : ∀ {l : List SV}, SV.closedL l = true → A4 l = []
 | [], _ => rfl
 | x :: l, h => by
   simp only [SV.closedL, Bool.and_eq_true] at h;simp only [A4, A45 h.1, Nr h.2, List.append_nil]
end
theorem Ah2 (a m : Nat) : sw1 a m a = m := if_pos rfl
theorem FunOk.io {P : Program} {f : Nat} {a : List SV} {c c' x : SV} (hf : ∀ h d, h 900 = some (.var c) → FunOk P f (.p 900 0 :: a) h d x [.upd 900 (.var c')]) (ha : SV.closedL a = true) (hx : x.closed = true) (hc : c.closed = true) (hc' : c'.closed = true) {g : Nat} {h : Nat → Option Blk} {d : Nat} (hg : h g = some (.var c)) :
 FunOk P f (.p g 0 :: a) h d x [.upd g (.var c')] := by
 have h1 := (hf (fun k => h (sw1 900 g k)) d (by show h (sw1 900 g 900) = _; rw [Ah2]; exact hg)).rn (π := sw1 900 g) (Ue 900 g) (d' := d);simp only [SV.rnL, SV.rn, HU.rn, Blk.rn, List.map_cons, List.map_nil, Ah2, R5 ha, Acs hx, Acs hc'] at h1;refine h1.at fun n hn => ?_;simp only [A4, tn, Nr ha, List.append_nil, List.mem_singleton] at hn;subst hn;simp only [Ue, hg, Option.map_some, Blk.rn, Acs hc]
theorem FunOk.quiet {P : Program} {f : Nat} {args : List SV} {h : Nat → Option Blk} {d g : Nat} {x : SV} {blk : Blk} (hf : FunOk P f args h d x [.upd g blk]) (hg : h g = some blk) (hin : g ∈ A4 args) : FunOk P f args h d x [] :=
 ⟨hf.1, fun F N ρ s a w hR hh vs hc => by
  have hs : s.h g = some blk := (hh g hin).trans hg;have e : s.hup [.upd g blk] = s := FS.ext' (fun _ => rfl) fun n => by
   simp only [FS.hup, FS.seth];split
   · rename_i e; rw [e]; exact hs.symm
   · rfl
  have := hf.2 F N ρ s a w hR hh vs hc;rw [e] at this;exact this⟩
theorem FunOk.ioRow {P : Program} {f : Nat} {a : List SV} {sz : Nat} {es : List (List PV)} {x : SV} (hf : ∀ h d, h 900 = some (.row sz es) → FunOk P f (.os 900 :: a) h d x [.upd 900 (.row sz es)]) (ha : SV.closedL a = true) (hx : x.closed = true) {g : Nat} {h : Nat → Option Blk} {d : Nat} (hg : h g = some (.row sz es)) :
 FunOk P f (.os g :: a) h d x [] := by
 have h1 := (hf (fun k => h (sw1 900 g k)) d (by show h (sw1 900 g 900) = _; rw [Ah2]; exact hg)).rn (π := sw1 900 g) (Ue 900 g) (d' := d);simp only [SV.rnL, SV.rn, HU.rn, Blk.rn, List.map_cons, List.map_nil, Ah2, R5 ha, Acs hx] at h1;refine FunOk.quiet (g := g) (blk := .row sz es) (h1.at fun n hn => ?_) hg (by simp [A4, tn]);simp only [A4, tn, Nr ha, List.append_nil, List.mem_singleton] at hn;subst hn;simp only [Ue, hg, Option.map_some, Blk.rn]
def D1 (e : Evt) (o : Obj) (f : Evt) : Obj :=
 if Ax f = Ak e then
  if f.kind = 7 then (if Ck o.last.1 o.last.2 f.rep f.seq = true then { o with last := Ak f, name := f.name } else o)
  else if f.kind = 6 then { o with seen := Cn o.seen (A9 f.dep f.rep f.seq) } else o
 else o
noncomputable def C5 (l m : List Evt) (e : Evt) : Obj := m.foldl (D1 e) ⟨Ak e, decide (e.kind = 2), Ak e, e.name, fun _ => 0, Cx l (Ak e) l⟩
theorem Jc (l m : List Evt) (e f : Evt) : C5 l (m ++ [f]) e = D1 e (C5 l m e) f := by simp [C5]
def F7 : SV := .agg [.pv (.i .i64 0), .pv (.i .u32 0), .pv (.b false), .pv (.i .i64 0), .pv (.i .u32 0), .pv (.s []), .vec 8 (vE fun _ => 0), .pv (.sl true 0 [])]
theorem Ait (o : Obj) : Imp (.agg [.vec 2 [.i .i64 o.id.1, .i .u32 o.id.2], .pv (.b o.dir), .vec 2 [.i .i64 o.last.1, .i .u32 o.last.2], .pv (.s o.name), .vec 8 (vE o.seen), .pv (.sl false 11 (o.vers.map Bd))]) (.vec 15 (Ap o)) := Gl (by rfl) (E2 _)
noncomputable def Vn (f : Bool) (l : List Evt) (e : Evt) (k : Nat) : FS := mk [(6, .pv (.i .i64 k)), (0, .pv (.sl f 21 (l.map Be))), (3, .p 3 0), (4, .p 4 0), (5, .p 5 0)] [(3, some (.var (.vec 21 (Be e)))), (4, some (.var F7)), (5, some (.var (.vec 15 (Ap (C5 l (l.take k) e)))))]
noncomputable def Vm (f : Bool) (l : List Evt) (e : Evt) (k : Nat) : FS := mk [(6, .pv (.i .i64 k)), (0, .os 900), (3, .p 3 0), (4, .p 4 0), (5, .p 5 0), (1000000, .os 900)] [(3, some (.var (.vec 21 (Be e)))), (4, some (.var F7)), (5, some (.var (.vec 15 (Ap (C5 l (l.take k) e))))), (900, some (.row 21 (l.map Be)))]
set_option maxHeartbeats 8000000 in
theorem Yi {f : Bool} {l : List Evt} {rk : Evt → Nat} (e : Evt) {h d} (hE : EvsOk l rk) : FunOk Tryz.prog 60 [.pv (.sl f 21 (l.map Be)), .vec 21 (Be e)] h d (.vec 15 (Ap (C5 l l e))) [] := by
 refine Ao Af fn60 (by simp) rfl rfl fun F => ?_;have hn := hE.len;simp (disch := omega) only [ir60, A5, Ae, Dr, Blk.ptr, go_sem];refine Aa (V9 (rk := rk) (l := l) (Ak e) rfl rfl hE) ?_;simp (disch := omega) only [go_sem];refine A1 Af (Vn f l e) (fun k => k ≤ l.length) (fun k => l.length - k) 0 (by simp) (Aj ?_ ?_) fun k hk => ?_
 · simp (disch := omega) only [go_sem]
 · simp (disch := omega) only [C5, List.take_zero, List.foldl_nil, F7, go_sem];exact Ait ⟨Ak e, decide (e.kind = 2), Ak e, e.name, fun _ => 0, Cx l (Ak e) l⟩
 by_cases hlt : k < l.length
 · have hx : l[k]? = some l[k] := List.getElem?_eq_getElem hlt;have he : (l.map Be)[k]? = some (Be l[k]) := by rw [List.getElem?_map, hx]; rfl
   have ht := C3 hx;have hsn := Jc l (l.take k) e l[k];rw [← ht] at hsn;generalize l[k] = g at *;generalize hX : C5 l (l.take k) e = X at *;by_cases ho : Ax g = Ak e;rotate_left
   · have hp := E7 ho;have hs : D1 e X g = X := if_neg ho;rw [hs] at hsn;simp (disch := omega) only [Vn, hX, List.length_map, he, A7, A5, Ag, Bm, hp, go_sem];refine Ad (k + 1) _ _ rfl (by omega) (by omega) ?_ ?_
     · simp (disch := omega) only [go_sem]
     · simp (disch := omega) only [hsn, F7, go_sem]
   have hp := Fh ho;by_cases h7 : g.kind = 7
   · by_cases hl7 : Ck X.last.1 X.last.2 g.rep g.seq = true
     · have hs : D1 e X g = { X with last := Ak g, name := g.name } := by unfold D1; rw [if_pos ho, if_pos h7, if_pos hl7]
       rw [hs] at hsn;have hsp := Vr X (Ak g);have hsp2 := Vq { X with last := Ak g } g.name;simp (disch := omega) only [Vn, hX, List.length_map, he, A7, A5, Ag, Bm, hp, Ae, h7, Jo, go_sem];refine Aa (Fy X.last.1 X.last.2 g.rep g.seq) ?_;simp (disch := omega) only [hl7, go_sem];refine Rb ?_;simp (disch := omega) only [List.length_map, he, A5, Dr, hsp, hsp2, Ae, h7, go_sem];refine Ad (k + 1) _ _ rfl (by omega) (by omega) ?_ ?_
       · simp (disch := omega) only [go_sem]
       · simp (disch := omega) only [hsn, F7, go_sem]
     · have hs : D1 e X g = X := by unfold D1; rw [if_pos ho, if_pos h7, if_neg hl7]
       rw [hs] at hsn;have hl7' : Ck X.last.1 X.last.2 g.rep g.seq = false := by simpa using hl7
       simp (disch := omega) only [Vn, hX, List.length_map, he, A7, A5, Ag, Bm, hp, Ae, h7, Jo, go_sem];refine Aa (Fy X.last.1 X.last.2 g.rep g.seq) ?_;simp (disch := omega) only [hl7', List.length_map, he, Ae, h7, go_sem];refine Ad (k + 1) _ _ rfl (by omega) (by omega) ?_ ?_
       · simp (disch := omega) only [go_sem]
       · simp (disch := omega) only [hsn, F7, go_sem]
   by_cases h6 : g.kind = 6
   · have hs : D1 e X g = { X with seen := Cn X.seen (A9 g.dep g.rep g.seq) } := by unfold D1; rw [if_pos ho, if_neg h7, if_pos h6]
     rw [hs] at hsn;have hsp := Vp X (Cn X.seen (A9 g.dep g.rep g.seq));have hvl := Bi (Cn X.seen (A9 g.dep g.rep g.seq));simp (disch := omega) only [Vn, hX, List.length_map, he, A7, A5, Ag, Bm, hp, Ae, h7, h6, Pg, E4, go_sem];refine Aa (E1 _ _ _) ?_;simp (disch := omega) only [go_sem];refine Aa (Ul _ _) ?_;simp (disch := omega) only [hsp, hvl, go_sem];refine Ad (k + 1) _ _ rfl (by omega) (by omega) ?_ ?_
     · simp (disch := omega) only [go_sem]
     · simp (disch := omega) only [hsn, F7, go_sem]
   · have hs : D1 e X g = X := by unfold D1; rw [if_pos ho, if_neg h7, if_neg h6]
     rw [hs] at hsn;simp (disch := omega) only [Vn, hX, List.length_map, he, A7, A5, Ag, Bm, hp, Ae, h7, h6, go_sem];refine Ad (k + 1) _ _ rfl (by omega) (by omega) ?_ ?_
     · simp (disch := omega) only [go_sem]
     · simp (disch := omega) only [hsn, F7, go_sem]
 obtain rfl : k = l.length := by omega
 have htk : l.take l.length = l := List.take_length;have hol := E2 (C5 l l e);simp (disch := omega) only [Vn, F7, List.length_map, htk, Gc, hol, go_sem]
set_option maxHeartbeats 8000000 in
theorem Afv {l : List Evt} {rk : Evt → Nat} (e : Evt) {h d} (hE : EvsOk l rk) (hg : h 900 = some (.row 21 (l.map Be))) : FunOk Tryz.prog 60 [.os 900, .vec 21 (Be e)] h d (.vec 15 (Ap (C5 l l e))) [.upd 900 (.row 21 (l.map Be))] := by
 refine H0 (g := 900) Af fn60 (by simp) (by simp [A4, tn]) (by simp [A4, tn]) hg rfl (by simp [Blk.ptr, SV.kill]) rfl (fun _ => rfl) fun F => ?_;obtain ⟨f, hf⟩ : ∃ f : Bool, f = false := ⟨_, rfl⟩
 have hn := hE.len;simp (disch := omega) only [ir60, A5, Ae, Dr, Blk.ptr, go_sem];refine Aa (V9 (rk := rk) (l := l) (Ak e) rfl rfl hE) ?_;simp (disch := omega) only [go_sem];refine A1 Af (Vm f l e) (fun k => k ≤ l.length) (fun k => l.length - k) 0 (by simp) (Aj ?_ ?_) fun k hk => ?_
 · simp (disch := omega) only [go_sem]
 · simp (disch := omega) only [C5, List.take_zero, List.foldl_nil, F7, go_sem];exact Ait ⟨Ak e, decide (e.kind = 2), Ak e, e.name, fun _ => 0, Cx l (Ak e) l⟩
 by_cases hlt : k < l.length
 · have hx : l[k]? = some l[k] := List.getElem?_eq_getElem hlt;have he : (l.map Be)[k]? = some (Be l[k]) := by rw [List.getElem?_map, hx]; rfl
   have ht := C3 hx;have hsn := Jc l (l.take k) e l[k];rw [← ht] at hsn;generalize l[k] = g at *;generalize hX : C5 l (l.take k) e = X at *;by_cases ho : Ax g = Ak e;rotate_left
   · have hp := E7 ho;have hs : D1 e X g = X := if_neg ho;rw [hs] at hsn;simp (disch := omega) only [Vm, hX, List.length_map, he, A7, A5, Ag, Bm, hp, go_sem];refine Ad (k + 1) _ _ rfl (by omega) (by omega) ?_ ?_
     · simp (disch := omega) only [go_sem]
     · simp (disch := omega) only [hsn, F7, go_sem]
   have hp := Fh ho;by_cases h7 : g.kind = 7
   · by_cases hl7 : Ck X.last.1 X.last.2 g.rep g.seq = true
     · have hs : D1 e X g = { X with last := Ak g, name := g.name } := by unfold D1; rw [if_pos ho, if_pos h7, if_pos hl7]
       rw [hs] at hsn;have hsp := Vr X (Ak g);have hsp2 := Vq { X with last := Ak g } g.name;simp (disch := omega) only [Vm, hX, List.length_map, he, A7, A5, Ag, Bm, hp, Ae, h7, Jo, go_sem];refine Aa (Fy X.last.1 X.last.2 g.rep g.seq) ?_;simp (disch := omega) only [hl7, go_sem];refine Rb ?_;simp (disch := omega) only [List.length_map, he, A5, Dr, hsp, hsp2, Ae, h7, go_sem];refine Ad (k + 1) _ _ rfl (by omega) (by omega) ?_ ?_
       · simp (disch := omega) only [go_sem]
       · simp (disch := omega) only [hsn, F7, go_sem]
     · have hs : D1 e X g = X := by unfold D1; rw [if_pos ho, if_pos h7, if_neg hl7]
       rw [hs] at hsn;have hl7' : Ck X.last.1 X.last.2 g.rep g.seq = false := by simpa using hl7
       simp (disch := omega) only [Vm, hX, List.length_map, he, A7, A5, Ag, Bm, hp, Ae, h7, Jo, go_sem];refine Aa (Fy X.last.1 X.last.2 g.rep g.seq) ?_;simp (disch := omega) only [hl7', List.length_map, he, Ae, h7, go_sem];refine Ad (k + 1) _ _ rfl (by omega) (by omega) ?_ ?_
       · simp (disch := omega) only [go_sem]
       · simp (disch := omega) only [hsn, F7, go_sem]
   by_cases h6 : g.kind = 6
   · have hs : D1 e X g = { X with seen := Cn X.seen (A9 g.dep g.rep g.seq) } := by unfold D1; rw [if_pos ho, if_neg h7, if_pos h6]
     rw [hs] at hsn;have hsp := Vp X (Cn X.seen (A9 g.dep g.rep g.seq));have hvl := Bi (Cn X.seen (A9 g.dep g.rep g.seq));simp (disch := omega) only [Vm, hX, List.length_map, he, A7, A5, Ag, Bm, hp, Ae, h7, h6, Pg, E4, go_sem];refine Aa (E1 _ _ _) ?_;simp (disch := omega) only [go_sem];refine Aa (Ul _ _) ?_;simp (disch := omega) only [hsp, hvl, go_sem];refine Ad (k + 1) _ _ rfl (by omega) (by omega) ?_ ?_
     · simp (disch := omega) only [go_sem]
     · simp (disch := omega) only [hsn, F7, go_sem]
   · have hs : D1 e X g = X := by unfold D1; rw [if_pos ho, if_neg h7, if_neg h6]
     rw [hs] at hsn;simp (disch := omega) only [Vm, hX, List.length_map, he, A7, A5, Ag, Bm, hp, Ae, h7, h6, go_sem];refine Ad (k + 1) _ _ rfl (by omega) (by omega) ?_ ?_
     · simp (disch := omega) only [go_sem]
     · simp (disch := omega) only [hsn, F7, go_sem]
 obtain rfl : k = l.length := by omega
 have htk : l.take l.length = l := List.take_length;have hol := E2 (C5 l l e);simp (disch := omega) only [Vm, F7, List.length_map, htk, Gc, hol, go_sem];refine B9 ?_;simp (disch := omega) only [go_sem]
theorem Yh {l : List Evt} {rk : Evt → Nat} (e : Evt) {h d g} (hE : EvsOk l rk) (hg : h g = some (.row 21 (l.map Be))) : FunOk Tryz.prog 60 [.os g, .vec 21 (Be e)] h d (.vec 15 (Ap (C5 l l e))) [] :=
 FunOk.ioRow (fun h d hg => Afv e hE hg) rfl rfl hg
def Hh (l : List Obj) (o : Obj) : List Obj := l.take (Bs l o.id) ++ o :: l.drop (Bs l o.id)
noncomputable def Dx (l : List Evt) (p : St × Vc) (e : Evt) : St × Vc :=
 if e.kind = 1 ∨ e.kind = 2 then ({ p.1 with objs := Hh p.1.objs (C5 l l e) }, p.2)
 else if e.kind = 8 then (if Hi p.2 e.rep < e.seq then (H5 p.1 e, A9 p.2 e.rep e.seq) else p)
 else if e.kind = 9 then (Ob p.1 e, p.2)
 else p
noncomputable def Ft (l m : List Evt) : St × Vc := m.foldl (Dx l) (⟨Bz l, [], C0 l l, fun _ => 0, fun _ => false⟩, fun _ => 0)
noncomputable def Au (l : List Evt) : St := (Ft l l).1
theorem Ht (l m : List Evt) (e : Evt) : Ft l (m ++ [e]) = Dx l (Ft l m) e := by simp [Ft]
theorem Adj {l : List Obj} {o x : Obj} : x ∈ Hh l o ↔ x = o ∨ x ∈ l := by
 unfold Hh;simp only [List.mem_append, List.mem_cons];have : x ∈ l ↔ x ∈ l.take (Bs l o.id) ∨ x ∈ l.drop (Bs l o.id) := by rw [← List.mem_append, List.take_append_drop]
 rw [this];constructor
 · rintro (h | h | h)
   · exact .inr (.inl h)
   · exact .inl h
   · exact .inr (.inr h)
 · rintro (h | h | h)
   · exact .inr (.inl h)
   · exact .inl h
   · exact .inr (.inr h)
theorem Ari (l : List Obj) (o : Obj) : (Hh l o).length = l.length + 1 := by
 unfold Hh;simp only [List.length_append, List.length_take, List.length_cons, List.length_drop];have := Lj l o.id; omega
theorem Awc (l : List Obj) (o : Obj) : (Hh l o).map obN = Oe (l.map obN) (obN o) := by
 unfold Hh Oe Bs;simp [List.map_take, List.map_drop]; rfl
theorem Yb {l : List Obj} {o : Obj} (hs : Eh l) (hn : ∀ x ∈ l, x.id ≠ o.id) : Eh (Hh l o) := by
 unfold Eh; rw [Awc];refine Vt hs (Fz.2 fun x hx => ?_);obtain ⟨u, hu, rfl⟩ := List.mem_map.1 hx;exact hn u hu
theorem I5 (l : List Evt) (e : Evt) : ∀ m : List Evt, (C5 l m e).id = Ak e := fun m => by
 unfold C5;generalize hq : (⟨Ak e, decide (e.kind = 2), Ak e, e.name, fun _ => 0, Cx l (Ak e) l⟩ : Obj) = o;have : o.id = Ak e := by rw [← hq]
 clear hq
 induction m generalizing o with
 | nil => exact this
 | cons f m ih =>
   simp only [List.foldl_cons];refine ih _ ?_;unfold D1;split
   · split
     · split <;> exact this
     · split <;> exact this
   · exact this
theorem Ra {l : List Evt} : ∀ (n : Nat) (m : List Evt), m.length = n → NodE m → Eh (Ft l m).1.objs ∧ (Ft l m).1.objs.length ≤ n ∧ ∀ o, o ∈ (Ft l m).1.objs ↔ ∃ e ∈ m, (e.kind = 1 ∨ e.kind = 2) ∧ o = C5 l l e
 | 0, m, h, _ => by obtain rfl := List.eq_nil_of_length_eq_zero h; exact ⟨List.Pairwise.nil, by simp [Ft], by simp [Ft]⟩
 | n + 1, m, h, hn => by
   have hne : m ≠ [] := fun e => by subst e; simp at h
   have e1 := (List.dropLast_concat_getLast hne).symm;have hn' : NodE m.dropLast := by unfold NodE at *; rw [List.map_dropLast]; exact hn.sublist (List.dropLast_sublist _)
   obtain ⟨h1, h2, h3⟩ := Ra (l := l) n m.dropLast (by simp [h]) hn';rw [e1] at hn ⊢;rw [Ht];generalize m.getLast hne = e at *;generalize m.dropLast = m' at *;have grow : ∀ o : Obj, ((∃ f ∈ m' ++ [e], (f.kind = 1 ∨ f.kind = 2) ∧ o = C5 l l f) ↔ (∃ f ∈ m', (f.kind = 1 ∨ f.kind = 2) ∧ o = C5 l l f) ∨ ((e.kind = 1 ∨ e.kind = 2) ∧ o = C5 l l e)) := fun o => by
    simp only [List.mem_append, List.mem_singleton];constructor
    · rintro ⟨f, hf | rfl, h⟩
      · exact .inl ⟨f, hf, h⟩
      · exact .inr h
    · rintro (⟨f, hf, h⟩ | h)
      · exact ⟨f, .inl hf, h⟩
      · exact ⟨e, .inr rfl, h⟩
   by_cases h12 : e.kind = 1 ∨ e.kind = 2
   · have hS : (Dx l (Ft l m') e).1.objs = Hh (Ft l m').1.objs (C5 l l e) := by unfold Dx; rw [if_pos h12]
     rw [hS];have hnew : ∀ x ∈ (Ft l m').1.objs, x.id ≠ (C5 l l e).id := fun x hx => by
      obtain ⟨f, hf, _, rfl⟩ := (h3 x).1 hx;rw [I5, I5];unfold NodE at hn;rw [List.map_append, List.nodup_append] at hn;exact hn.2.2 (Ak f) (List.mem_map_of_mem hf) (Ak e) (by simp)
     refine ⟨Yb h1 hnew, by rw [Ari]; omega, fun o => ?_⟩;rw [Adj, h3, grow];constructor
     · rintro (h | h)
       · exact .inr ⟨h12, h⟩
       · exact .inl h
     · rintro (h | h)
       · exact .inr h
       · exact .inl h.2
   · have hS : (Dx l (Ft l m') e).1.objs = (Ft l m').1.objs := by
      unfold Dx; rw [if_neg h12];split
      · split <;> rfl
      · split <;> rfl
     rw [hS];refine ⟨h1, by omega, fun o => ?_⟩;rw [h3, grow];exact ⟨.inl, fun h => h.resolve_right fun q => h12 q.1⟩
theorem Ael (l m : List Evt) : (Ft l m).1.ents = C0 l l ∧ (Ft l m).1.known = Bz l := by
 unfold Ft;generalize hq : ((⟨Bz l, [], C0 l l, fun _ => 0, fun _ => false⟩ : St), (fun _ => 0 : Vc)) = p;have : p.1.ents = C0 l l ∧ p.1.known = Bz l := by rw [← hq]; exact ⟨rfl, rfl⟩
 clear hq
 induction m generalizing p with
 | nil => exact this
 | cons f m ih =>
   simp only [List.foldl_cons];refine ih _ ?_;unfold Dx;split
   · exact this
   · split
     · split
       · exact this
       · exact this
     · split <;> exact this
noncomputable def Tj (f : Bool) (l : List Evt) (k : Nat) : FS := mk [(5, .pv (.i .i64 k)), (0, .pv (.sl f 21 (l.map Be))), (2, .p 2 0), (3, .p 3 0), (4, .p 4 0)] [(2, some (.var Bt)), (3, some (.var (.agg (A6 (Ft l (l.take k)).1)))), (4, some (.var (.vec 8 (vE (Ft l (l.take k)).2))))]
noncomputable def Ti (f : Bool) (l : List Evt) (k : Nat) : FS := mk [(5, .pv (.i .i64 k)), (0, .os 900), (2, .p 2 0), (3, .p 3 0), (4, .p 4 0), (1000000, .os 900)] [(2, some (.var Bt)), (3, some (.var (.agg (A6 (Ft l (l.take k)).1)))), (4, some (.var (.vec 8 (vE (Ft l (l.take k)).2)))), (900, some (.row 21 (l.map Be)))]
noncomputable def X7 (f : Bool) (l : List Evt) (k : Nat) (e : Evt) (S : St) (v : Vc) (o : Obj) (j : Nat) : FS := mk [(8, .pv (.i .i64 j)), (7, .p 7 0), (6, .p 6 0), (5, .pv (.i .i64 k)), (0, .pv (.sl f 21 (l.map Be))), (2, .p 2 0), (3, .p 3 0), (4, .p 4 0)] [(7, some (.var (.vec 15 (Ap o)))), (6, some (.var (.vec 21 (Be e)))), (2, some (.var Bt)), (3, some (.var (.agg (A6 S)))), (4, some (.var (.vec 8 (vE v))))]
noncomputable def X6 (f : Bool) (l : List Evt) (k : Nat) (e : Evt) (S : St) (v : Vc) (o : Obj) (j : Nat) : FS := mk [(8, .pv (.i .i64 j)), (7, .p 7 0), (6, .p 6 0), (5, .pv (.i .i64 k)), (0, .os 900), (2, .p 2 0), (3, .p 3 0), (4, .p 4 0), (1000000, .os 900)] [(7, some (.var (.vec 15 (Ap o)))), (6, some (.var (.vec 21 (Be e)))), (2, some (.var Bt)), (3, some (.var (.agg (A6 S)))), (4, some (.var (.vec 8 (vE v)))), (900, some (.row 21 (l.map Be)))]
theorem Nu {l : List Obj} {i : Bn} {k : Nat} {x : Obj} (hk : k < Bs l i) (hx : l[k]? = some x) : Hz x.id i = true := by
 obtain ⟨y, h1, h2⟩ := Ape (l := l.map obN) hk;rw [Uw hx] at h1; cases h1; exact h2
theorem P9 {l : List Obj} (hs : Eh l) {i : Bn} {k : Nat} {x : Obj} (hk : Bs l i ≤ k) (hx : l[k]? = some x) : ¬ Hz x.id i = true := A1f (l := l.map obN) hs hk (Uw hx)
set_option maxHeartbeats 16000000 in
theorem Aqa {f : Bool} {l : List Evt} {rk : Evt → Nat} {h d} (hE : EvsOk l rk) (hB : ∀ e ∈ l, 1 ≤ e.rep ∧ e.rep ≤ 8) : FunOk Tryz.prog 15 [.pv (.sl f 21 (l.map Be))] h d (.agg (A6 (Au l))) [] := by
 refine Ao Af fn15 (by simp) rfl rfl fun F => ?_;have hn := hE.len;have hevs : ∀ e ∈ l, ev e := fun e he => (hE.ev e he).1;simp (disch := omega) only [ir15, Blk.ptr, go_sem];refine Aa (Aim (l := l) rfl rfl (by omega)) ?_;simp (disch := omega) only [go_sem];refine Aa (Yj (l := l) rfl rfl (by omega) hevs) ?_;simp (disch := omega) only [go_sem];refine A1 Af (Tj f l) (fun k => k ≤ l.length) (fun k => l.length - k) 0 (by simp) (Aj ?_ ?_) fun k hk => ?_
 · simp (disch := omega) only [go_sem]
 · simp (disch := omega) only [Ft, List.take_zero, List.foldl_nil, Bt, go_sem];exact ⟨Ui (s := ⟨Bz l, [], C0 l l, fun _ => 0, fun _ => false⟩) (.inl rfl) (.inr rfl) trivial (.refl _), rfl⟩
 by_cases hlt : k < l.length
 · have hx : l[k]? = some l[k] := List.getElem?_eq_getElem hlt;have he : (l.map Be)[k]? = some (Be l[k]) := by rw [List.getElem?_map, hx]; rfl
   have ht := C3 hx;have hsn := Ht l (l.take k) l[k];have hlk : (l.take k).length ≤ 400 := by simp; omega
   have hnd := hE.nod.take (k + 1);rw [← ht] at hsn;rw [ht] at hnd;have hrep := hB _ (List.getElem_mem hlt);generalize l[k] = e at *;obtain ⟨hso, hol, hom⟩ := Ra (l := l) _ (l.take k) rfl (hE.nod.take k);have hel := Ac e;generalize hX : Ft l (l.take k) = X at *;obtain ⟨S, v⟩ := X;simp only at hso hol hom;by_cases h12 : e.kind = 1 ∨ e.kind = 2
   · have hs : Dx l (S, v) e = ({ S with objs := Hh S.objs (C5 l l e) }, v) := by unfold Dx; rw [if_pos h12]
     rw [hs] at hsn;have n8 : ¬ e.kind = 8 := by omega
     have n9 : ¬ e.kind = 9 := by omega
     have hoe := E2 (C5 l l e);have hoi := I5 l e l;have hnew : ∀ x ∈ S.objs, x.id ≠ Ak e := fun x hx => by
      obtain ⟨f, hf, _, rfl⟩ := (hom x).1 hx;rw [I5];unfold NodE at hnd;rw [List.map_append, List.nodup_append] at hnd;exact hnd.2.2 (Ak f) (List.mem_map_of_mem hf) (Ak e) (by simp)
     rcases h12 with h1 | h2
     · simp (disch := omega) only [Tj, hX, List.length_map, he, Bh, hel, Ae, h1, go_sem];refine Aa (Yi e hE) ?_;simp (disch := omega) only [hoe, A6, A2, List.length_map, Bt, go_sem];generalize hO : C5 l l e = o at *;have hp0 := Lj S.objs (Ak e);refine A1 Af (X7 f l k e S v o) (fun j => Bs S.objs (Ak e) ≤ j ∧ j ≤ S.objs.length) (fun j => j) S.objs.length ⟨hp0, Nat.le_refl _⟩ (Aj ?_ ?_) fun j hj => ?_
       · simp (disch := omega) only [go_sem]
       · simp (disch := omega) only [A6, A2, Bt, go_sem]
       obtain ⟨hj1, hj2⟩ := hj;by_cases hj0 : j = 0
       · subst hj0;have hjq : Bs S.objs (Ak e) = 0 := by omega
         simp (disch := omega) only [X7, A6, A2, Bt, go_sem];have hT : (S.objs.map Ap).take S.objs.length = S.objs.map Ap := List.take_of_length_le (by simp);have hD : ((S.objs.map Ap).drop 0).length = S.objs.length - 0 := by simp
         have hD2 : ((S.objs.map Ap).take 0).length = 0 := by rw [List.length_take, List.length_map]; omega
         have hI : (S.objs.map Ap).take 0 ++ Ap o :: S.objs.map Ap = (Hh S.objs o).map Ap := by
          unfold Hh; rw [hoi, hjq]; simp [List.map_take, List.map_drop]
         refine Kc ?_;simp (disch := omega) only [List.length_map, Gc, hoe, hT, hD, hD2, Ae, n8, n9, go_sem];refine ⟨k + 1, by omega, by omega, D7 70 rfl (Aj ?_ ?_)⟩
         · simp (disch := omega) only [go_sem]
         · simp (disch := omega) only [hI, hsn, A6, A2, Bt, go_sem]
       · have hjx : j - 1 < S.objs.length := by omega
         have hx3 : S.objs[j - 1]? = some S.objs[j - 1] := List.getElem?_eq_getElem hjx;have he3 : (S.objs.map Ap)[j - 1]? = some (Ap S.objs[j - 1]) := by rw [List.getElem?_map, hx3]; rfl
         have hmx := List.getElem_mem hjx;have ejn : ((j : Int) - 1).toNat = j - 1 := by omega
         have hjp : (0 : Int) < j := by omega
         generalize S.objs[j - 1] = x at *;simp (disch := omega) only [X7, A6, A2, Bt, hjp, List.length_map, ejn, he3, H9, go_sem];refine Aa (Fy o.id.1 o.id.2 x.id.1 x.id.2) ?_;by_cases hlx : Ck o.id.1 o.id.2 x.id.1 x.id.2 = true
         · simp (disch := omega) only [hlx, go_sem];refine Ad (j - 1) _ _ rfl ⟨?_, by omega⟩ (by omega) ?_ ?_
           · have : ¬ Bs S.objs (Ak e) = j := fun q => M4 (Nu (i := Ak e) (by omega) hx3) (by rw [← hoi]; exact hlx);omega
           · simp (disch := omega) only [go_sem]
           · simp (disch := omega) only [A6, A2, Bt, go_sem]
         · have hlx' : Ck o.id.1 o.id.2 x.id.1 x.id.2 = false := by simpa using hlx
           have hjq : Bs S.objs (Ak e) = j := by
            have h3 : Hz x.id (Ak e) = true := by
             rw [hoi] at hlx;exact J6 hlx (fun q => hnew x hmx q.symm)
            have : ¬ Bs S.objs (Ak e) ≤ j - 1 := fun q => P9 hso q hx3 h3;omega
           simp (disch := omega) only [hlx', go_sem];have hT : (S.objs.map Ap).take S.objs.length = S.objs.map Ap := List.take_of_length_le (by simp);have hD : ((S.objs.map Ap).drop j).length = S.objs.length - j := by simp
           have hD2 : ((S.objs.map Ap).take j).length = j := by rw [List.length_take, List.length_map]; omega
           have hI : (S.objs.map Ap).take j ++ Ap o :: (S.objs.map Ap).drop j = (Hh S.objs o).map Ap := by
            unfold Hh; rw [hoi, hjq]; simp [List.map_take, List.map_drop]
           refine Kc ?_;simp (disch := omega) only [List.length_map, Gc, hoe, hT, hD, hD2, Ae, n8, n9, go_sem];refine ⟨k + 1, by omega, by omega, D7 70 rfl (Aj ?_ ?_)⟩
           · simp (disch := omega) only [go_sem]
           · simp (disch := omega) only [hI, hsn, A6, A2, Bt, go_sem]
     · have n1 : ¬ e.kind = 1 := by omega
       simp (disch := omega) only [Tj, hX, List.length_map, he, Bh, hel, Ae, n1, h2, go_sem];refine Aa (Yi e hE) ?_;simp (disch := omega) only [hoe, A6, A2, List.length_map, Bt, go_sem];generalize hO : C5 l l e = o at *;have hp0 := Lj S.objs (Ak e);refine A1 Af (X7 f l k e S v o) (fun j => Bs S.objs (Ak e) ≤ j ∧ j ≤ S.objs.length) (fun j => j) S.objs.length ⟨hp0, Nat.le_refl _⟩ (Aj ?_ ?_) fun j hj => ?_
       · simp (disch := omega) only [go_sem]
       · simp (disch := omega) only [A6, A2, Bt, go_sem]
       obtain ⟨hj1, hj2⟩ := hj;by_cases hj0 : j = 0
       · subst hj0;have hjq : Bs S.objs (Ak e) = 0 := by omega
         simp (disch := omega) only [X7, A6, A2, Bt, go_sem];have hT : (S.objs.map Ap).take S.objs.length = S.objs.map Ap := List.take_of_length_le (by simp);have hD : ((S.objs.map Ap).drop 0).length = S.objs.length - 0 := by simp
         have hD2 : ((S.objs.map Ap).take 0).length = 0 := by rw [List.length_take, List.length_map]; omega
         have hI : (S.objs.map Ap).take 0 ++ Ap o :: S.objs.map Ap = (Hh S.objs o).map Ap := by
          unfold Hh; rw [hoi, hjq]; simp [List.map_take, List.map_drop]
         refine Kc ?_;simp (disch := omega) only [List.length_map, Gc, hoe, hT, hD, hD2, Ae, n8, n9, go_sem];refine ⟨k + 1, by omega, by omega, D7 70 rfl (Aj ?_ ?_)⟩
         · simp (disch := omega) only [go_sem]
         · simp (disch := omega) only [hI, hsn, A6, A2, Bt, go_sem]
       · have hjx : j - 1 < S.objs.length := by omega
         have hx3 : S.objs[j - 1]? = some S.objs[j - 1] := List.getElem?_eq_getElem hjx;have he3 : (S.objs.map Ap)[j - 1]? = some (Ap S.objs[j - 1]) := by rw [List.getElem?_map, hx3]; rfl
         have hmx := List.getElem_mem hjx;have ejn : ((j : Int) - 1).toNat = j - 1 := by omega
         have hjp : (0 : Int) < j := by omega
         generalize S.objs[j - 1] = x at *;simp (disch := omega) only [X7, A6, A2, Bt, hjp, List.length_map, ejn, he3, H9, go_sem];refine Aa (Fy o.id.1 o.id.2 x.id.1 x.id.2) ?_;by_cases hlx : Ck o.id.1 o.id.2 x.id.1 x.id.2 = true
         · simp (disch := omega) only [hlx, go_sem];refine Ad (j - 1) _ _ rfl ⟨?_, by omega⟩ (by omega) ?_ ?_
           · have : ¬ Bs S.objs (Ak e) = j := fun q => M4 (Nu (i := Ak e) (by omega) hx3) (by rw [← hoi]; exact hlx);omega
           · simp (disch := omega) only [go_sem]
           · simp (disch := omega) only [A6, A2, Bt, go_sem]
         · have hlx' : Ck o.id.1 o.id.2 x.id.1 x.id.2 = false := by simpa using hlx
           have hjq : Bs S.objs (Ak e) = j := by
            have h3 : Hz x.id (Ak e) = true := by
             rw [hoi] at hlx;exact J6 hlx (fun q => hnew x hmx q.symm)
            have : ¬ Bs S.objs (Ak e) ≤ j - 1 := fun q => P9 hso q hx3 h3;omega
           simp (disch := omega) only [hlx', go_sem];have hT : (S.objs.map Ap).take S.objs.length = S.objs.map Ap := List.take_of_length_le (by simp);have hD : ((S.objs.map Ap).drop j).length = S.objs.length - j := by simp
           have hD2 : ((S.objs.map Ap).take j).length = j := by rw [List.length_take, List.length_map]; omega
           have hI : (S.objs.map Ap).take j ++ Ap o :: (S.objs.map Ap).drop j = (Hh S.objs o).map Ap := by
            unfold Hh; rw [hoi, hjq]; simp [List.map_take, List.map_drop]
           refine Kc ?_;simp (disch := omega) only [List.length_map, Gc, hoe, hT, hD, hD2, Ae, n8, n9, go_sem];refine ⟨k + 1, by omega, by omega, D7 70 rfl (Aj ?_ ?_)⟩
           · simp (disch := omega) only [go_sem]
           · simp (disch := omega) only [hI, hsn, A6, A2, Bt, go_sem]
   have n1 : ¬ e.kind = 1 := fun h => h12 (.inl h);have n2 : ¬ e.kind = 2 := fun h => h12 (.inr h);obtain ⟨r, hr8, hre⟩ : ∃ r : Nat, r < 8 ∧ e.rep - 1 = r := ⟨(e.rep - 1).toNat, by omega, by omega⟩
   by_cases h8 : e.kind = 8
   · have n9 : ¬ e.kind = 9 := by omega
     by_cases hq : Hi v e.rep < e.seq
     · have hs : Dx l (S, v) e = (H5 S e, A9 v e.rep e.seq) := by unfold Dx; rw [if_neg h12, if_pos h8]; exact if_pos hq
       rw [hs] at hsn;have hS : H5 S e = { S with wards := Ea S.wards r e.ward } := by unfold H5; rw [hre]; rfl
       rw [hS] at hsn;have hsp := Vs S hr8 e.ward (.sl false 15 (S.objs.map Ap)) (.sl false 15 (S.ents.map Bp));have hq' : ((Hi v e.rep : Nat) : Int) < (e.seq : Int) := by omega
       have hvl := Bi (A9 v e.rep e.seq);simp (disch := omega) only [Tj, hX, List.length_map, he, Bh, hel, Ae, n1, n2, h8, Da, Fo, go_sem];refine Aa (Pa v e.rep) ?_;simp (disch := omega) only [hq', A5, go_sem];refine Aa (E1 _ _ _) ?_;simp (disch := omega) only [hvl, Da, hre, Up, A6, A2, hsp, Ae, h8, go_sem];refine Ad (k + 1) _ _ rfl (by omega) (by omega) ?_ ?_
       · simp (disch := omega) only [go_sem]
       · simp (disch := omega) only [hsn, Bt, go_sem];exact ⟨R0 { S with wards := Ea S.wards r e.ward }, rfl⟩
     · have hs : Dx l (S, v) e = (S, v) := by unfold Dx; rw [if_neg h12, if_pos h8]; exact if_neg hq
       rw [hs] at hsn;have hq' : ¬ ((Hi v e.rep : Nat) : Int) < (e.seq : Int) := by omega
       simp (disch := omega) only [Tj, hX, List.length_map, he, Bh, hel, Ae, n1, n2, h8, Da, Fo, go_sem];refine Aa (Pa v e.rep) ?_;simp (disch := omega) only [hq', Ae, h8, go_sem];refine Ad (k + 1) _ _ rfl (by omega) (by omega) ?_ ?_
       · simp (disch := omega) only [go_sem]
       · simp (disch := omega) only [hsn, Bt, A6, A2, go_sem]
   by_cases h9 : e.kind = 9
   · have hs : Dx l (S, v) e = (Ob S e, v) := by unfold Dx; rw [if_neg h12, if_neg h8, if_pos h9]
     rw [hs] at hsn;have hS : Ob S e = { S with ret := Ea S.ret r true } := by unfold Ob; rw [hre]; rfl
     rw [hS] at hsn;have hsp := Aad S hr8 true (.sl false 15 (S.objs.map Ap)) (.sl false 15 (S.ents.map Bp));simp (disch := omega) only [Tj, hX, List.length_map, he, Bh, hel, Ae, n1, n2, h8, h9, Da, hre, A6, A2, hsp, go_sem];refine Ad (k + 1) _ _ rfl (by omega) (by omega) ?_ ?_
     · simp (disch := omega) only [go_sem]
     · simp (disch := omega) only [hsn, Bt, go_sem];exact R0 { S with ret := Ea S.ret r true }
   · have hs : Dx l (S, v) e = (S, v) := by unfold Dx; rw [if_neg h12, if_neg h8, if_neg h9]
     rw [hs] at hsn;simp (disch := omega) only [Tj, hX, List.length_map, he, Bh, hel, Ae, n1, n2, h8, h9, go_sem];refine Ad (k + 1) _ _ rfl (by omega) (by omega) ?_ ?_
     · simp (disch := omega) only [go_sem]
     · simp (disch := omega) only [hsn, Bt, A6, A2, go_sem]
 obtain rfl : k = l.length := by omega
 have htk : l.take l.length = l := List.take_length;simp (disch := omega) only [Tj, Bt, A6, A2, List.length_map, htk, Au, go_sem]
set_option maxHeartbeats 16000000 in
theorem Ak2 {l : List Evt} {rk : Evt → Nat} {h d} (hE : EvsOk l rk) (hB : ∀ e ∈ l, 1 ≤ e.rep ∧ e.rep ≤ 8) (hg : h 900 = some (.row 21 (l.map Be))) : FunOk Tryz.prog 15 [.os 900] h d (.agg (A6 (Au l))) [.upd 900 (.row 21 (l.map Be))] := by
 refine H0 (g := 900) Af fn15 (by simp) (by simp [A4, tn]) (by simp [A4, tn]) hg rfl (by simp [Blk.ptr, SV.kill]) rfl (fun _ => rfl) fun F => ?_;obtain ⟨f, hf⟩ : ∃ f : Bool, f = false := ⟨_, rfl⟩
 have hn := hE.len;have hevs : ∀ e ∈ l, ev e := fun e he => (hE.ev e he).1;simp (disch := omega) only [ir15, Blk.ptr, go_sem];refine Aa (Aim (l := l) rfl rfl (by omega)) ?_;simp (disch := omega) only [go_sem];refine Aa (Yj (l := l) rfl rfl (by omega) hevs) ?_;simp (disch := omega) only [go_sem];refine A1 Af (Ti f l) (fun k => k ≤ l.length) (fun k => l.length - k) 0 (by simp) (Aj ?_ ?_) fun k hk => ?_
 · simp (disch := omega) only [go_sem]
 · simp (disch := omega) only [Ft, List.take_zero, List.foldl_nil, Bt, go_sem];exact ⟨Ui (s := ⟨Bz l, [], C0 l l, fun _ => 0, fun _ => false⟩) (.inl rfl) (.inr rfl) trivial (.refl _), rfl⟩
 by_cases hlt : k < l.length
 · have hx : l[k]? = some l[k] := List.getElem?_eq_getElem hlt;have he : (l.map Be)[k]? = some (Be l[k]) := by rw [List.getElem?_map, hx]; rfl
   have ht := C3 hx;have hsn := Ht l (l.take k) l[k];have hlk : (l.take k).length ≤ 400 := by simp; omega
   have hnd := hE.nod.take (k + 1);rw [← ht] at hsn;rw [ht] at hnd;have hrep := hB _ (List.getElem_mem hlt);generalize l[k] = e at *;obtain ⟨hso, hol, hom⟩ := Ra (l := l) _ (l.take k) rfl (hE.nod.take k);have hel := Ac e;generalize hX : Ft l (l.take k) = X at *;obtain ⟨S, v⟩ := X;simp only at hso hol hom;by_cases h12 : e.kind = 1 ∨ e.kind = 2
   · have hs : Dx l (S, v) e = ({ S with objs := Hh S.objs (C5 l l e) }, v) := by unfold Dx; rw [if_pos h12]
     rw [hs] at hsn;have n8 : ¬ e.kind = 8 := by omega
     have n9 : ¬ e.kind = 9 := by omega
     have hoe := E2 (C5 l l e);have hoi := I5 l e l;have hnew : ∀ x ∈ S.objs, x.id ≠ Ak e := fun x hx => by
      obtain ⟨f, hf, _, rfl⟩ := (hom x).1 hx;rw [I5];unfold NodE at hnd;rw [List.map_append, List.nodup_append] at hnd;exact hnd.2.2 (Ak f) (List.mem_map_of_mem hf) (Ak e) (by simp)
     rcases h12 with h1 | h2
     · simp (disch := omega) only [Ti, hX, List.length_map, he, Bh, hel, Ae, h1, go_sem];refine Aa (Yh e hE rfl) ?_;simp (disch := omega) only [hoe, A6, A2, List.length_map, Bt, go_sem];generalize hO : C5 l l e = o at *;have hp0 := Lj S.objs (Ak e);refine A1 Af (X6 f l k e S v o) (fun j => Bs S.objs (Ak e) ≤ j ∧ j ≤ S.objs.length) (fun j => j) S.objs.length ⟨hp0, Nat.le_refl _⟩ (Aj ?_ ?_) fun j hj => ?_
       · simp (disch := omega) only [go_sem]
       · simp (disch := omega) only [A6, A2, Bt, go_sem]
       obtain ⟨hj1, hj2⟩ := hj;by_cases hj0 : j = 0
       · subst hj0;have hjq : Bs S.objs (Ak e) = 0 := by omega
         simp (disch := omega) only [X6, A6, A2, Bt, go_sem];have hT : (S.objs.map Ap).take S.objs.length = S.objs.map Ap := List.take_of_length_le (by simp);have hD : ((S.objs.map Ap).drop 0).length = S.objs.length - 0 := by simp
         have hD2 : ((S.objs.map Ap).take 0).length = 0 := by rw [List.length_take, List.length_map]; omega
         have hI : (S.objs.map Ap).take 0 ++ Ap o :: S.objs.map Ap = (Hh S.objs o).map Ap := by
          unfold Hh; rw [hoi, hjq]; simp [List.map_take, List.map_drop]
         refine Kc ?_;simp (disch := omega) only [List.length_map, Gc, hoe, hT, hD, hD2, Ae, n8, n9, go_sem];refine ⟨k + 1, by omega, by omega, D7 70 rfl (Aj ?_ ?_)⟩
         · simp (disch := omega) only [go_sem]
         · simp (disch := omega) only [hI, hsn, A6, A2, Bt, go_sem]
       · have hjx : j - 1 < S.objs.length := by omega
         have hx3 : S.objs[j - 1]? = some S.objs[j - 1] := List.getElem?_eq_getElem hjx;have he3 : (S.objs.map Ap)[j - 1]? = some (Ap S.objs[j - 1]) := by rw [List.getElem?_map, hx3]; rfl
         have hmx := List.getElem_mem hjx;have ejn : ((j : Int) - 1).toNat = j - 1 := by omega
         have hjp : (0 : Int) < j := by omega
         generalize S.objs[j - 1] = x at *;simp (disch := omega) only [X6, A6, A2, Bt, hjp, List.length_map, ejn, he3, H9, go_sem];refine Aa (Fy o.id.1 o.id.2 x.id.1 x.id.2) ?_;by_cases hlx : Ck o.id.1 o.id.2 x.id.1 x.id.2 = true
         · simp (disch := omega) only [hlx, go_sem];refine Ad (j - 1) _ _ rfl ⟨?_, by omega⟩ (by omega) ?_ ?_
           · have : ¬ Bs S.objs (Ak e) = j := fun q => M4 (Nu (i := Ak e) (by omega) hx3) (by rw [← hoi]; exact hlx);omega
           · simp (disch := omega) only [go_sem]
           · simp (disch := omega) only [A6, A2, Bt, go_sem]
         · have hlx' : Ck o.id.1 o.id.2 x.id.1 x.id.2 = false := by simpa using hlx
           have hjq : Bs S.objs (Ak e) = j := by
            have h3 : Hz x.id (Ak e) = true := by
             rw [hoi] at hlx;exact J6 hlx (fun q => hnew x hmx q.symm)
            have : ¬ Bs S.objs (Ak e) ≤ j - 1 := fun q => P9 hso q hx3 h3;omega
           simp (disch := omega) only [hlx', go_sem];have hT : (S.objs.map Ap).take S.objs.length = S.objs.map Ap := List.take_of_length_le (by simp);have hD : ((S.objs.map Ap).drop j).length = S.objs.length - j := by simp
           have hD2 : ((S.objs.map Ap).take j).length = j := by rw [List.length_take, List.length_map]; omega
           have hI : (S.objs.map Ap).take j ++ Ap o :: (S.objs.map Ap).drop j = (Hh S.objs o).map Ap := by
            unfold Hh; rw [hoi, hjq]; simp [List.map_take, List.map_drop]
           refine Kc ?_;simp (disch := omega) only [List.length_map, Gc, hoe, hT, hD, hD2, Ae, n8, n9, go_sem];refine ⟨k + 1, by omega, by omega, D7 70 rfl (Aj ?_ ?_)⟩
           · simp (disch := omega) only [go_sem]
           · simp (disch := omega) only [hI, hsn, A6, A2, Bt, go_sem]
     · have n1 : ¬ e.kind = 1 := by omega
       simp (disch := omega) only [Ti, hX, List.length_map, he, Bh, hel, Ae, n1, h2, go_sem];refine Aa (Yh e hE rfl) ?_;simp (disch := omega) only [hoe, A6, A2, List.length_map, Bt, go_sem];generalize hO : C5 l l e = o at *;have hp0 := Lj S.objs (Ak e);refine A1 Af (X6 f l k e S v o) (fun j => Bs S.objs (Ak e) ≤ j ∧ j ≤ S.objs.length) (fun j => j) S.objs.length ⟨hp0, Nat.le_refl _⟩ (Aj ?_ ?_) fun j hj => ?_
       · simp (disch := omega) only [go_sem]
       · simp (disch := omega) only [A6, A2, Bt, go_sem]
       obtain ⟨hj1, hj2⟩ := hj;by_cases hj0 : j = 0
       · subst hj0;have hjq : Bs S.objs (Ak e) = 0 := by omega
         simp (disch := omega) only [X6, A6, A2, Bt, go_sem];have hT : (S.objs.map Ap).take S.objs.length = S.objs.map Ap := List.take_of_length_le (by simp);have hD : ((S.objs.map Ap).drop 0).length = S.objs.length - 0 := by simp
         have hD2 : ((S.objs.map Ap).take 0).length = 0 := by rw [List.length_take, List.length_map]; omega
         have hI : (S.objs.map Ap).take 0 ++ Ap o :: S.objs.map Ap = (Hh S.objs o).map Ap := by
          unfold Hh; rw [hoi, hjq]; simp [List.map_take, List.map_drop]
         refine Kc ?_;simp (disch := omega) only [List.length_map, Gc, hoe, hT, hD, hD2, Ae, n8, n9, go_sem];refine ⟨k + 1, by omega, by omega, D7 70 rfl (Aj ?_ ?_)⟩
         · simp (disch := omega) only [go_sem]
         · simp (disch := omega) only [hI, hsn, A6, A2, Bt, go_sem]
       · have hjx : j - 1 < S.objs.length := by omega
         have hx3 : S.objs[j - 1]? = some S.objs[j - 1] := List.getElem?_eq_getElem hjx;have he3 : (S.objs.map Ap)[j - 1]? = some (Ap S.objs[j - 1]) := by rw [List.getElem?_map, hx3]; rfl
         have hmx := List.getElem_mem hjx;have ejn : ((j : Int) - 1).toNat = j - 1 := by omega
         have hjp : (0 : Int) < j := by omega
         generalize S.objs[j - 1] = x at *;simp (disch := omega) only [X6, A6, A2, Bt, hjp, List.length_map, ejn, he3, H9, go_sem];refine Aa (Fy o.id.1 o.id.2 x.id.1 x.id.2) ?_;by_cases hlx : Ck o.id.1 o.id.2 x.id.1 x.id.2 = true
         · simp (disch := omega) only [hlx, go_sem];refine Ad (j - 1) _ _ rfl ⟨?_, by omega⟩ (by omega) ?_ ?_
           · have : ¬ Bs S.objs (Ak e) = j := fun q => M4 (Nu (i := Ak e) (by omega) hx3) (by rw [← hoi]; exact hlx);omega
           · simp (disch := omega) only [go_sem]
           · simp (disch := omega) only [A6, A2, Bt, go_sem]
         · have hlx' : Ck o.id.1 o.id.2 x.id.1 x.id.2 = false := by simpa using hlx
           have hjq : Bs S.objs (Ak e) = j := by
            have h3 : Hz x.id (Ak e) = true := by
             rw [hoi] at hlx;exact J6 hlx (fun q => hnew x hmx q.symm)
            have : ¬ Bs S.objs (Ak e) ≤ j - 1 := fun q => P9 hso q hx3 h3;omega
           simp (disch := omega) only [hlx', go_sem];have hT : (S.objs.map Ap).take S.objs.length = S.objs.map Ap := List.take_of_length_le (by simp);have hD : ((S.objs.map Ap).drop j).length = S.objs.length - j := by simp
           have hD2 : ((S.objs.map Ap).take j).length = j := by rw [List.length_take, List.length_map]; omega
           have hI : (S.objs.map Ap).take j ++ Ap o :: (S.objs.map Ap).drop j = (Hh S.objs o).map Ap := by
            unfold Hh; rw [hoi, hjq]; simp [List.map_take, List.map_drop]
           refine Kc ?_;simp (disch := omega) only [List.length_map, Gc, hoe, hT, hD, hD2, Ae, n8, n9, go_sem];refine ⟨k + 1, by omega, by omega, D7 70 rfl (Aj ?_ ?_)⟩
           · simp (disch := omega) only [go_sem]
           · simp (disch := omega) only [hI, hsn, A6, A2, Bt, go_sem]
   have n1 : ¬ e.kind = 1 := fun h => h12 (.inl h);have n2 : ¬ e.kind = 2 := fun h => h12 (.inr h);obtain ⟨r, hr8, hre⟩ : ∃ r : Nat, r < 8 ∧ e.rep - 1 = r := ⟨(e.rep - 1).toNat, by omega, by omega⟩
   by_cases h8 : e.kind = 8
   · have n9 : ¬ e.kind = 9 := by omega
     by_cases hq : Hi v e.rep < e.seq
     · have hs : Dx l (S, v) e = (H5 S e, A9 v e.rep e.seq) := by unfold Dx; rw [if_neg h12, if_pos h8]; exact if_pos hq
       rw [hs] at hsn;have hS : H5 S e = { S with wards := Ea S.wards r e.ward } := by unfold H5; rw [hre]; rfl
       rw [hS] at hsn;have hsp := Vs S hr8 e.ward (.sl false 15 (S.objs.map Ap)) (.sl false 15 (S.ents.map Bp));have hq' : ((Hi v e.rep : Nat) : Int) < (e.seq : Int) := by omega
       have hvl := Bi (A9 v e.rep e.seq);simp (disch := omega) only [Ti, hX, List.length_map, he, Bh, hel, Ae, n1, n2, h8, Da, Fo, go_sem];refine Aa (Pa v e.rep) ?_;simp (disch := omega) only [hq', A5, go_sem];refine Aa (E1 _ _ _) ?_;simp (disch := omega) only [hvl, Da, hre, Up, A6, A2, hsp, Ae, h8, go_sem];refine Ad (k + 1) _ _ rfl (by omega) (by omega) ?_ ?_
       · simp (disch := omega) only [go_sem]
       · simp (disch := omega) only [hsn, Bt, go_sem];exact ⟨R0 { S with wards := Ea S.wards r e.ward }, rfl⟩
     · have hs : Dx l (S, v) e = (S, v) := by unfold Dx; rw [if_neg h12, if_pos h8]; exact if_neg hq
       rw [hs] at hsn;have hq' : ¬ ((Hi v e.rep : Nat) : Int) < (e.seq : Int) := by omega
       simp (disch := omega) only [Ti, hX, List.length_map, he, Bh, hel, Ae, n1, n2, h8, Da, Fo, go_sem];refine Aa (Pa v e.rep) ?_;simp (disch := omega) only [hq', Ae, h8, go_sem];refine Ad (k + 1) _ _ rfl (by omega) (by omega) ?_ ?_
       · simp (disch := omega) only [go_sem]
       · simp (disch := omega) only [hsn, Bt, A6, A2, go_sem]
   by_cases h9 : e.kind = 9
   · have hs : Dx l (S, v) e = (Ob S e, v) := by unfold Dx; rw [if_neg h12, if_neg h8, if_pos h9]
     rw [hs] at hsn;have hS : Ob S e = { S with ret := Ea S.ret r true } := by unfold Ob; rw [hre]; rfl
     rw [hS] at hsn;have hsp := Aad S hr8 true (.sl false 15 (S.objs.map Ap)) (.sl false 15 (S.ents.map Bp));simp (disch := omega) only [Ti, hX, List.length_map, he, Bh, hel, Ae, n1, n2, h8, h9, Da, hre, A6, A2, hsp, go_sem];refine Ad (k + 1) _ _ rfl (by omega) (by omega) ?_ ?_
     · simp (disch := omega) only [go_sem]
     · simp (disch := omega) only [hsn, Bt, go_sem];exact R0 { S with ret := Ea S.ret r true }
   · have hs : Dx l (S, v) e = (S, v) := by unfold Dx; rw [if_neg h12, if_neg h8, if_neg h9]
     rw [hs] at hsn;simp (disch := omega) only [Ti, hX, List.length_map, he, Bh, hel, Ae, n1, n2, h8, h9, go_sem];refine Ad (k + 1) _ _ rfl (by omega) (by omega) ?_ ?_
     · simp (disch := omega) only [go_sem]
     · simp (disch := omega) only [hsn, Bt, A6, A2, go_sem]
 obtain rfl : k = l.length := by omega
 have htk : l.take l.length = l := List.take_length;simp (disch := omega) only [Ti, Bt, A6, A2, List.length_map, htk, Au, go_sem];refine B9 ?_;simp (disch := omega) only [go_sem]
theorem Ap9 {l : List Evt} {rk : Evt → Nat} {h d g} (hE : EvsOk l rk) (hB : ∀ e ∈ l, 1 ≤ e.rep ∧ e.rep ≤ 8) (hg : h g = some (.row 21 (l.map Be))) : FunOk Tryz.prog 15 [.os g] h d (.agg (A6 (Au l))) [] :=
 FunOk.ioRow (fun h d hg => Ak2 hE hB hg) rfl rfl hg
theorem Af6 {l : List Obj} (hs : Eh l) (i : Bn) : E3 l i = l.find? fun o => decide (o.id = i) := by
 cases h : E3 l i with
 | some o =>
   obtain ⟨h1, h2⟩ := Gr h;symm;obtain ⟨hlt, hg⟩ := List.getElem?_eq_some_iff.1 h1;rw [List.find?_eq_some_iff_getElem];refine ⟨by simpa using h2, Bs l i, hlt, hg, fun j hj => ?_⟩;have := Nu hj (List.getElem?_eq_getElem (by omega));simp only [Bool.not_eq_true', decide_eq_false_iff_not];intro q;rw [q] at this;exact F4 this
 | none =>
   symm;rw [List.find?_eq_none];intro x hx q;have q : x.id = i := by simpa using q
   obtain ⟨j, hj⟩ := List.mem_iff_getElem?.1 hx;have h1 : ¬ j < Bs l i := fun hq => by
    have := Nu hq hj;rw [q] at this; exact F4 this
   by_cases e : j = Bs l i
   · unfold E3 at h;rw [← e, hj] at h;simp only at h;rw [if_pos q] at h; cases h
   · have hlt := (List.getElem?_eq_some_iff.1 hj).1;have hp : Bs l i < l.length := by omega
     have hy : l[Bs l i]? = some l[Bs l i] := List.getElem?_eq_getElem hp;have h3 := Kq hs hy hj (by omega);rw [q] at h3;exact P9 hs (Nat.le_refl _) hy h3
def Z4 (s : St) (i : Bn) (z : SV) (k : Nat) : FS := mk [(6, .pv (.i .i64 k)), (2, .p 2 0), (3, .p 3 0), (4, .p 4 0)] [(2, some (.var (.agg (A6 s)))), (3, some (.var (.vec 2 [.i .i64 i.1, .i .u32 i.2]))), (4, some (.var z))]
def Ak5 : Obj := ⟨(0, 0), false, (0, 0), [], fun _ => 0, []⟩
theorem Alr : Imp (.agg [.pv (.i .i64 0), .pv (.i .u32 0), .pv (.b false), .pv (.i .i64 0), .pv (.i .u32 0), .pv (.s []), .vec 8 (vE fun _ => 0), .pv (.sl true 0 [])]) (.vec 15 (Ap Ak5)) :=
 fun V ρ v h => Als (Ais Ak5 (.inl rfl)) V ρ v (Gl (n := 15) (cs := Fl true 0 Ak5) (by rfl) (El _ _ _) V ρ v h)
set_option maxHeartbeats 1000000 in
theorem Aij {s : St} (i : Bn) (hs : Eh s.objs) {h d} (hn : s.objs.length ≤ 1000) : FunOk Tryz.prog 92 [.agg (A6 s), .vec 2 [.i .i64 i.1, .i .u32 i.2]] h d (.tup [.vec 15 (Ap ((E3 s.objs i).getD Ak5)), .pv (.b (E3 s.objs i).isSome)]) [] := by
 refine S0 Af fn92 (by simp) rfl rfl fun F => ?_;simp (disch := omega) only [ir92, A6, A2, go_sem];refine A1 Af (Z4 s i F7) (fun k => k ≤ s.objs.length ∧ ∀ j x, j < k → s.objs[j]? = some x → x.id ≠ i) (fun k => s.objs.length - k) 0 ⟨by simp, fun j x hj => absurd hj (Nat.not_lt_zero j)⟩ (Aj ?_ ?_) fun k hk => ?_
 · simp (disch := omega) only [go_sem]
 · simp (disch := omega) only [F7, A6, A2, go_sem]
 obtain ⟨hk1, hk2⟩ := hk;rw [Af6 hs];by_cases hlt : k < s.objs.length
 · have hx : s.objs[k]? = some s.objs[k] := List.getElem?_eq_getElem hlt;have he : (s.objs.map Ap)[k]? = some (Ap s.objs[k]) := by rw [List.getElem?_map, hx]; rfl
   have hgk : s.objs[k] = s.objs[k] := rfl;generalize hO : s.objs[k] = o at *;have hol := E2 o;by_cases hb : o.id = i
   · have hp := Fh hb;have hf : s.objs.find? (fun o => decide (o.id = i)) = some o := by
      rw [List.find?_eq_some_iff_getElem];refine ⟨by simpa using hb, k, hlt, hO, fun j hj => ?_⟩;simpa using hk2 j _ hj (List.getElem?_eq_getElem (by omega))
     rw [hf];simp (disch := omega) only [Z4, F7, A6, A2, List.length_map, he, H9, Ag, Bm, hp, Gc, hol, go_sem];refine B9 ?_;simp (disch := omega) only [go_sem];exact Imp.refl _
   · have hp := E7 hb;simp (disch := omega) only [Z4, F7, A6, A2, List.length_map, he, H9, Ag, Bm, hp, go_sem];refine Ad (k + 1) _ _ rfl ⟨by omega, fun j x hj hjx => ?_⟩ (by omega) ?_ ?_
     · by_cases ej : j = k
       · subst ej; rw [hx] at hjx; cases hjx; exact hb
       · exact hk2 j x (by omega) hjx
     · simp (disch := omega) only [go_sem]
     · simp (disch := omega) only [F7, A6, A2, go_sem]
 · obtain rfl : k = s.objs.length := by omega
   have hf : s.objs.find? (fun o => decide (o.id = i)) = none := by
    rw [List.find?_eq_none];intro x hx;obtain ⟨j, hj⟩ := List.mem_iff_getElem?.1 hx;simpa using hk2 j x (List.getElem?_eq_some_iff.1 hj).1 hj
   rw [hf];simp (disch := omega) only [Z4, F7, A6, A2, List.length_map, go_sem];refine B9 ?_;simp (disch := omega) only [go_sem];exact Uc Alr
theorem Av6 {s : St} (i : Bn) (hs : Eh s.objs) {h d} (hn : s.objs.length ≤ 1000) : FunOk Tryz.prog 91 [.agg (A6 s), .vec 2 [.i .i64 i.1, .i .u32 i.2]] h d (.pv (.i .i64 (Km s.objs i))) [] := by
 refine Ao Af fn91 (by simp) rfl rfl fun F => ?_;have hd := Agz (l := s.objs) i;have ho := Aij (s := s) i hs hn (h := fun _ => none) (d := 0);rw [show A6 s = [.vec 8 (vE s.known), .pv (.sl false 15 (s.objs.map Ap)), .pv (.sl false 15 (s.ents.map Bp)), .vec 8 (iE s.wards), .vec 8 (wE s.ret)] from rfl] at ho;simp (disch := omega) only [ir91, A6, A2, go_sem];refine Aa (Apk _ _) ?_;by_cases h0 : i = (0, 0)
 · have hz : B0 i.1 i.2 = true := decide_eq_true (Abz h0);rw [if_pos h0] at hd;simp (disch := omega) only [hz, hd, go_sem]
 · have hz : B0 i.1 i.2 = false := decide_eq_false fun e => h0 (Prod.ext e.1 e.2);rw [if_neg h0] at hd;simp (disch := omega) only [hz, go_sem];refine Aa (ho.at (by simp [A4, tn])) ?_;cases hA : E3 s.objs i with
   | none =>
     rw [hA] at hd;simp only at hd;have hol := E2 Ak5;simp (disch := omega) only [Option.isSome_none, hol, hd, go_sem]
   | some o =>
     rw [hA] at hd;simp only at hd;have hol := E2 o;by_cases hdd : o.dir = true
     · rw [if_pos hdd] at hd;simp (disch := omega) only [Option.isSome_some, Option.getD_some, hol, E6, hdd, hd, go_sem]
     · have hdd' : o.dir = false := by simpa using hdd
       rw [if_neg hdd] at hd;simp (disch := omega) only [Option.isSome_some, Option.getD_some, hol, E6, hdd', hd, go_sem]
theorem Aeh {e : Evt} (h : Bk e = true) (hk : e.kind = 3 ∨ e.kind = 4 ∨ e.kind = 5) : ∀ b ∈ e.base.l, Bl e.dep b.1 b.2 = true := by
 unfold Bk at h;simp only [Bool.and_eq_true, decide_eq_true_eq] at h;have hK := h.2.2.2;have key : ∀ m, Eb e.base.l m e.dep = true → ∀ b ∈ e.base.l, Bl e.dep b.1 b.2 = true := fun m hm b hb => by
  unfold Eb Gy at hm;simp only [Bool.and_eq_true, decide_eq_true_eq] at hm;obtain ⟨j, hj⟩ := List.mem_iff_getElem?.1 hb;obtain ⟨hlt, hg⟩ := List.getElem?_eq_some_iff.1 hj;have := (hm.2 j hlt).1;rw [hg] at this; exact this
 rcases hk with h3 | h3 | h3
 · rw [J5 h3] at hK;simp only [Bool.and_eq_true] at hK;exact key _ hK.2.1
 · rw [N1 h3] at hK;simp only [Bool.and_eq_true] at hK;exact key _ hK.2.1
 · rw [N0 h3] at hK;simp only [Bool.and_eq_true] at hK;exact key _ hK.2.1
theorem Ad4 {a : Vc} {r : Int} {q : Nat} (h : Bl a r q = true) : 1 ≤ q ∧ 1 ≤ r ∧ r ≤ 8 ∧ q ≤ a (r - 1).toNat := by
 unfold Bl Hi at h;simp only [decide_eq_true_eq] at h;by_cases hr : 1 ≤ r ∧ r ≤ 8
 · rw [if_pos hr] at h; exact ⟨h.1, hr.1, hr.2, h.2⟩
 · rw [if_neg hr] at h; omega
def An9 (s : St) (e : Evt) (o : Obj) (k : Nat) : FS := mk [(7, .pv (.i .i64 k)), (2, .p 2 0), (3, .p 3 0), (5, .p 5 0), (4, .pv (.i .i64 0))] [(2, some (.var (.agg (A6 s)))), (3, some (.var (.vec 21 (Be e)))), (5, some (.var (.vec 15 (Ap o))))]
set_option maxHeartbeats 8000000 in
theorem A5o {s : St} {e : Evt} (hs : StIn s) (he : ev e) (hdep : ∀ i, i < 8 → e.dep i < 4294967296) {h d} : FunOk Tryz.prog 50 [.agg (A6 s), .vec 21 (Be e)] h d (.pv (.i .i64 (Et s e))) [] := by
 refine Ao Af fn50 (by simp) rfl rfl fun F => ?_;have a1 := hs.fine.on;have hS : A6 s = [.vec 8 (vE s.known), .pv (.sl false 15 (s.objs.map Ap)), .pv (.sl false 15 (s.ents.map Bp)), .vec 8 (iE s.wards), .vec 8 (wE s.ret)] := rfl;have hO := Aij (s := s) (Ax e) hs.so (by omega) (h := fun _ => none) (d := 0);have hD := Av6 (s := s) (G9 e) hs.so (by omega) (h := fun _ => none) (d := 0);rw [hS] at hO hD;simp (disch := omega) only [ir50, A6, A2, Bh, go_sem];refine Aa (Ap7 e he hdep) ?_;by_cases hc' : Bk e = false
 · have hw : Et s e = 7 := if_pos hc';simp (disch := omega) only [hc', hw, go_sem]
 have hc : Bk e = true := by simpa using hc'
 have hb := Cw hc;obtain ⟨b1, b2, b3, b4, b5, b6, b7⟩ := hb;simp (disch := omega) only [hc, A5, E4, go_sem];refine Aa (Mv _ _ _) ?_;by_cases h1 : Bl s.known e.rep e.seq = true
 · have hw : Et s e = 11 := by unfold Et; rw [if_neg hc', if_pos h1]
   simp (disch := omega) only [h1, hw, go_sem]
 have h1' : Bl s.known e.rep e.seq = false := by simpa using h1
 simp (disch := omega) only [h1', E4, go_sem];refine Aa (Apr _ _) ?_;by_cases h2 : Rj e.dep s.known;rotate_left
 · have hw : Et s e = 10 := by unfold Et; rw [if_neg hc', if_neg h1, if_pos h2]
   have h2' := decide_eq_false h2;simp (disch := omega) only [h2', hw, go_sem]
 have h2' := decide_eq_true h2;obtain ⟨k, hk8, hre⟩ : ∃ k : Nat, k < 8 ∧ e.rep - 1 = k := ⟨(e.rep - 1).toNat, by omega, by omega⟩
 have hld := fun (a b : PV) (w : Nat → Int) (r : Nat → Bool) (K : KK) => Ai1 a b w r hk8 K;simp (disch := omega) only [h2', Da, hre, hld, go_sem];by_cases h3 : s.ret k = true
 · have hw : Et s e = 28 := by unfold Et; rw [if_neg hc', if_neg h1, if_neg (by simpa using h2), if_pos (by rw [hre]; exact h3)]
   simp (disch := omega) only [h3, hw, go_sem]
 have h3' : s.ret k = false := by simpa using h3
 have hw : Et s e = T3 s e := by unfold Et; rw [if_neg hc', if_neg h1, if_neg (by simpa using h2), if_neg (by rw [hre]; exact h3)]
 unfold T3 at hw;by_cases h89 : e.kind = 8 ∨ e.kind = 9
 · rw [if_pos h89] at hw;rcases h89 with h8 | h9
   · simp (disch := omega) only [h3', Ae, h8, hw, go_sem]
   · have n8 : ¬ e.kind = 8 := by omega
     simp (disch := omega) only [h3', Ae, n8, h9, hw, go_sem]
 rw [if_neg h89] at hw;have n8 : ¬ e.kind = 8 := fun q => h89 (.inl q);have n9 : ¬ e.kind = 9 := fun q => h89 (.inr q);by_cases h12 : e.kind = 1 ∨ e.kind = 2
 · rw [if_pos h12] at hw;rcases h12 with h1k | h2k
   · simp (disch := omega) only [h3', Ae, n8, n9, h1k, Dh, go_sem];refine Aa (hD.at (by simp [A4, tn])) ?_;simp (disch := omega) only [hw, go_sem]
   · have n1 : ¬ e.kind = 1 := by omega
     simp (disch := omega) only [h3', Ae, n8, n9, n1, h2k, Dh, go_sem];refine Aa (hD.at (by simp [A4, tn])) ?_;simp (disch := omega) only [hw, go_sem]
 rw [if_neg h12] at hw;have n1 : ¬ e.kind = 1 := fun q => h12 (.inl q);have n2 : ¬ e.kind = 2 := fun q => h12 (.inr q);simp (disch := omega) only [h3', Ae, n8, n9, n1, n2, A7, go_sem];refine Aa (hO.at (by simp [A4, tn])) ?_;cases hA : E3 s.objs (Ax e) with
 | none =>
   rw [hA] at hw;simp only at hw;have hol := E2 Ak5;simp (disch := omega) only [Option.isSome_none, Option.getD_none, hol, hw, go_sem]
 | some o =>
   rw [hA] at hw;simp only at hw;have hol := E2 o;by_cases h7 : e.kind = 7
   · rw [if_pos h7] at hw;simp (disch := omega) only [Option.isSome_some, Option.getD_some, hol, Ae, h7, Dh, go_sem];refine Aa (hD.at (by simp [A4, tn])) ?_;simp (disch := omega) only [hw, go_sem]
   rw [if_neg h7] at hw;by_cases h6 : e.kind = 6
   · rw [if_pos h6] at hw;simp (disch := omega) only [Option.isSome_some, Option.getD_some, hol, Ae, h7, h6, hw, go_sem]
   rw [if_neg h6] at hw;by_cases hd : o.dir = true
   · rw [if_pos hd] at hw;simp (disch := omega) only [Option.isSome_some, Option.getD_some, hol, Ae, h7, h6, E6, hd, hw, go_sem]
   rw [if_neg hd] at hw;have hd' : o.dir = false := by simpa using hd
   have hk345 : e.kind = 3 ∨ e.kind = 4 ∨ e.kind = 5 := by omega
   have hb1 := Aeh hc hk345;have hbl := Ow hc hk345;have hom := List.mem_of_getElem? (Gr hA).1;have hov := hs.fine.ov o hom;have hpv : e.base.pv = .sl e.base.f e.base.z (e.base.l.map Ed) := rfl;simp (disch := omega) only [Option.isSome_some, Option.getD_some, hol, Ae, h7, h6, E6, hd', go_sem];refine A1 Af (An9 s e o) (fun k => k ≤ e.base.l.length ∧ ∀ j b, j < k → e.base.l[j]? = some b → Bo o.vers b.1 b.2 ≠ none) (fun k => e.base.l.length - k) 0 ⟨by simp, fun j b hj => absurd hj (Nat.not_lt_zero j)⟩ (Aj ?_ ?_) fun k hk => ?_
   · simp (disch := omega) only [go_sem]
   · simp (disch := omega) only [A6, A2, go_sem]
   obtain ⟨hk1, hk2⟩ := hk;by_cases hlt : k < e.base.l.length
   · have hx : e.base.l[k]? = some e.base.l[k] := List.getElem?_eq_getElem hlt;have hel : (e.base.l.map Ed)[k]? = some (Ed e.base.l[k]) := by rw [List.getElem?_map, hx]; rfl
     have hz2 : e.base.z = 2 := he.2.1.resolve_left fun q => by rw [q] at hlt; simp at hlt
     have hbm := List.getElem_mem hlt;have hbz := Ad4 (hb1 _ hbm);generalize e.base.l[k] = b at *;have hnz : ¬ (b.1 = 0 ∧ b.2 = 0) := by omega
     simp (disch := omega) only [An9, A6, A2, Fb, hpv, List.length_map, hz2, hel, Ev, Fm, go_sem];refine Aa (Aio (l := o.vers) b.1 b.2 rfl rfl (by omega)) ?_;cases hf : Bo o.vers b.1 b.2 with
     | none =>
       have hm : Dg o.vers e.base.l := ⟨b, hbm, hf⟩
       rw [if_pos hm] at hw;have hdv := Q4 hnz hf;simp (disch := omega) only [hdv, hw, go_sem]
     | some v =>
       have hdv := Ly hnz hf;simp (disch := omega) only [hdv, go_sem];refine Ad (k + 1) _ _ rfl ⟨by omega, fun j c hj hjc => ?_⟩ (by omega) ?_ ?_
       · by_cases ej : j = k
         · subst ej; rw [hx] at hjc; cases hjc; rw [hf]; simp
         · exact hk2 j c (by omega) hjc
       · simp (disch := omega) only [go_sem]
       · simp (disch := omega) only [A6, A2, go_sem]
   · obtain rfl : k = e.base.l.length := by omega
     have hm : ¬ Dg o.vers e.base.l := fun ⟨b, hbm, hf⟩ => by
      obtain ⟨j, hj⟩ := List.mem_iff_getElem?.1 hbm;exact hk2 j b (List.getElem?_eq_some_iff.1 hj).1 hj hf
     rw [if_neg hm] at hw;simp (disch := omega) only [An9, A6, A2, Fb, hpv, List.length_map, hw, go_sem]
def vid (v : Ver) : Bn := (v.rep, v.seq)
def Ot (bs : List Bn) (r : Int) (q : Nat) (x : Ver) : Ver := if (x.rep, x.seq) ∈ bs then Em x r q else x
theorem Aa1 (l : List Ver) (bs : List Bn) (r : Int) (q : Nat) : Dt l bs r q = l.map (Ot bs r q) := rfl
theorem Adl (bs : List Bn) (r : Int) (q : Nat) (x : Ver) : vid (Ot bs r q x) = vid x := by
 have := Gk x bs r q;simp only [vid, Ot, this.1, this.2]
theorem Aqx {l : List Ver} {bs : List Bn} {v x : Ver} : x ∈ Fe l bs v ↔ x = v ∨ ∃ y ∈ l, x = Ot bs v.rep v.seq y := by
 unfold Fe;rw [Aa1];have h : ∀ p, x ∈ (l.map (Ot bs v.rep v.seq)).take p ++ v :: (l.map (Ot bs v.rep v.seq)).drop p ↔ x = v ∨ x ∈ l.map (Ot bs v.rep v.seq) := fun p => by
  conv => rhs; rw [← List.take_append_drop p (l.map (Ot bs v.rep v.seq))]
  simp only [List.mem_append, List.mem_cons];constructor
  · rintro (h | h | h)
    · exact .inr (.inl h)
    · exact .inl h
    · exact .inr (.inr h)
  · rintro (h | h | h)
    · exact .inr (.inl h)
    · exact .inl h
    · exact .inr (.inr h)
 rw [h, List.mem_map];exact or_congr_right ⟨fun ⟨y, h1, h2⟩ => ⟨y, h1, h2.symm⟩, fun ⟨y, h1, h2⟩ => ⟨y, h1, h2.symm⟩⟩
theorem Atl {l : List Ver} {r : Int} {q : Nat} (h : Bo l r q = none) : ∃ p, Ps l r q 0 = (p, false) := by
 rcases ha : Ps l r q 0 with ⟨p, b⟩
 cases b with
 | false => exact ⟨p, rfl⟩
 | true => obtain ⟨_, u, _, _, h4⟩ := Ik ha; rw [h] at h4; cases h4
theorem Aev {l : List Ver} {bs : List Bn} {v : Ver} (hs : Cu l) (h : Bo l v.rep v.seq = none) : Cu (Fe l bs v) := by
 obtain ⟨p, hp⟩ := Atl h;obtain ⟨_, g2, g3, g4, g5, g6⟩ := Hu hs hp;rw [Nat.sub_zero] at g2 g5 g6;have hM := Qg (bs := bs) (r := v.rep) (q := v.seq) hs;unfold Fe;rw [hp];simp only;have h5 : ∀ x ∈ (Dt l bs v.rep v.seq).take p, Ck x.rep x.seq v.rep v.seq = true := fun x hx => by
  rw [Aa1, ← List.map_take] at hx;obtain ⟨y, hy, rfl⟩ := List.mem_map.1 hx;have := Adl bs v.rep v.seq y;simp only [vid, Prod.mk.injEq] at this;rw [this.1, this.2]; exact g5 y hy
 have h6 : ∀ x ∈ (Dt l bs v.rep v.seq).drop p, Ck v.rep v.seq x.rep x.seq = true := fun x hx => by
  rw [Aa1, ← List.map_drop] at hx;obtain ⟨y, hy, rfl⟩ := List.mem_map.1 hx;have := Adl bs v.rep v.seq y;simp only [vid, Prod.mk.injEq] at this;rw [this.1, this.2]; exact g6 y hy
 refine List.pairwise_append.2 ⟨List.Pairwise.sublist (List.take_sublist _ _) hM, List.pairwise_cons.2 ⟨h6, List.Pairwise.sublist (List.drop_sublist _ _) hM⟩, fun a ha b hb => ?_⟩;rcases List.mem_cons.1 hb with rfl | hb
 · exact h5 a ha
 · exact Ph (h5 a ha) (h6 b hb)
theorem Ol {α : Type} {P : List α → Prop} (h0 : P []) (h1 : ∀ l a, P l → P (l ++ [a])) : ∀ l, P l := by
 have key : ∀ n, ∀ l : List α, l.length = n → P l := by
  intro n
  induction n with
  | zero => intro l hl; rw [List.eq_nil_of_length_eq_zero hl]; exact h0
  | succ n ih =>
    intro l hl;have hne : l ≠ [] := fun e => by subst e; simp at hl
    rw [← List.dropLast_concat_getLast hne];exact h1 _ _ (ih _ (by simp [hl]))
 exact fun l => key _ l rfl
theorem Aal {α : Type} {r : α → α → Prop} (ha : ∀ a b, r a b → r b a → False) : ∀ {l m : List α}, l.Pairwise r → m.Pairwise r → (∀ a, a ∈ l ↔ a ∈ m) → l = m
 | [], [], _, _, _ => rfl
 | [], y :: m, _, _, h => by have := (h y).2 List.mem_cons_self; cases this
 | x :: l, [], _, _, h => by have := (h x).1 List.mem_cons_self; cases this
 | x :: l, y :: m, hl, hm, h => by
   obtain ⟨h1, h2⟩ := List.pairwise_cons.1 hl;obtain ⟨k1, k2⟩ := List.pairwise_cons.1 hm;have ex : x = y := by
    rcases List.mem_cons.1 ((h x).1 List.mem_cons_self) with a | a
    · exact a
    · rcases List.mem_cons.1 ((h y).2 List.mem_cons_self) with b | b
      · exact b.symm
      · exact (ha _ _ (h1 y b) (k1 x a)).elim
   subst ex;congr 1;refine Aal ha h2 k2 fun a => ?_;have ne : ∀ {n : List α}, (∀ b ∈ n, r x b) → x ∉ n := fun hn hx => ha x x (hn x hx) (hn x hx);constructor
   · intro hq;rcases List.mem_cons.1 ((h a).1 (List.mem_cons_of_mem _ hq)) with e | e
     · subst e; exact absurd hq (ne h1)
     · exact e
   · intro hq;rcases List.mem_cons.1 ((h a).2 (List.mem_cons_of_mem _ hq)) with e | e
     · subst e; exact absurd hq (ne k1)
     · exact e
theorem Nt {l m : List Ent} (hl : Dq l) (hm : Dq m) (h : ∀ x, x ∈ l ↔ x ∈ m) : l = m := Aal (fun a b h k => M4 h k) hl hm h
theorem Ya {l m : List Ver} (hl : Cu l) (hm : Cu m) (h : ∀ x, x ∈ l ↔ x ∈ m) : l = m := Aal (fun a b h k => M4 (a := (a.rep, a.seq)) (b := (b.rep, b.seq)) h k) hl hm h
theorem Vv {l : List Obj} : Eh l ↔ l.Pairwise fun a b => Hz a.id b.id = true := by
 unfold Eh Dq; rw [List.pairwise_map]; exact Iff.rfl
theorem R3 {l m : List Obj} (hl : Eh l) (hm : Eh m) (h : ∀ x, x ∈ l ↔ x ∈ m) : l = m := Aal (fun a b h k => M4 h k) (Vv.1 hl) (Vv.1 hm) h
structure Acc (s : St) (e : Evt) : Prop where
 ck : Bk e = true
 new : Bl s.known e.rep e.seq = false
 dep : Rj e.dep s.known
 ret : s.ret (e.rep - 1).toNat = false
 why : T3 s e = 0
theorem Re {s : St} {e : Evt} : Et s e = 0 ↔ Acc s e := by
 unfold Et;constructor
 · intro h;split at h
   · cases h
   · split at h
     · cases h
     · split at h
       · cases h
       · split at h
         · cases h
         · rename_i h1 h2 h3 h4;exact ⟨by simpa using h1, by simpa using h2, by simpa using h3, by simpa using h4, h⟩
 · intro ⟨h1, h2, h3, h4, h5⟩;rw [if_neg (by rw [h1]; simp), if_neg (by rw [h2]; simp), if_neg (fun q => q h3), if_neg (by rw [h4]; simp)];exact h5
inductive Val : List Evt → Prop
 | nil : Val []
 | snoc {l : List Evt} {e : Evt} : Val l → ev e → Et (Au l) e = 0 → Val (l ++ [e])
theorem D9 (l : List Evt) : (Au l).known = Bz l := (Ael l l).2
theorem N8 (l : List Evt) : (Au l).ents = C0 l l := (Ael l l).1
theorem Val.inv {l : List Evt} {e : Evt} (h : Val (l ++ [e])) : Val l ∧ ev e ∧ Et (Au l) e = 0 := by
 generalize hm : l ++ [e] = m at h;cases h with
 | nil => simp at hm
 | snoc a b c =>
   obtain ⟨rfl, h2⟩ := List.append_inj' hm rfl;cases h2;exact ⟨a, b, c⟩
theorem Val.pre {l m : List Evt} : Val (l ++ m) → Val l :=
 Ol (P := fun m => Val (l ++ m) → Val l) (fun h => by simpa using h) (fun m e ih h => by
  rw [← List.append_assoc] at h;exact ih h.inv.1) m
theorem M5 {a : Vc} {i : Bn} : Bl a i.1 i.2 = true ↔ 1 ≤ i.2 ∧ 1 ≤ i.1 ∧ i.1 ≤ 8 ∧ i.2 ≤ a (i.1 - 1).toNat := by
 refine ⟨Ad4, fun ⟨h1, h2, h3, h4⟩ => ?_⟩;unfold Bl Hi; rw [if_pos ⟨h2, h3⟩]; exact decide_eq_true ⟨h1, h4⟩
theorem Pw {v : Vc} {r : Int} {q : Nat} (hr : 1 ≤ r ∧ r ≤ 8) (i : Nat) : A9 v r q i = if i = (r - 1).toNat then max (v i) q else v i := by
 unfold A9 Ea; rw [if_pos hr]; split
 · rename_i h; rw [h]
 · rfl
theorem Ub {v : Vc} {r : Int} {q : Nat} (i : Nat) : v i ≤ A9 v r q i := by
 by_cases hr : 1 ≤ r ∧ r ≤ 8
 · rw [Pw hr]; split <;> omega
 · unfold A9; rw [if_neg hr]; exact Nat.le_refl _
theorem Arv {a b : Vc} (h : ∀ i, i < 8 → a i ≤ b i) {i : Bn} (k : Bl a i.1 i.2 = true) : Bl b i.1 i.2 = true := by
 rw [M5] at k ⊢;have := h (i.1 - 1).toNat (by omega);omega
theorem Aex {s : St} {e : Evt} (h : Acc s e) : 1 ≤ e.rep ∧ e.rep ≤ 8 ∧ e.seq = s.known (e.rep - 1).toNat + 1 := by
 obtain ⟨b1, b2, b3, b4, b5, b6, b7⟩ := Cw h.ck;have h1 := h.dep (e.rep - 1).toNat (by omega);have h2 : ¬ Bl s.known e.rep e.seq = true := by rw [h.new]; simp
 rw [show Bl s.known e.rep e.seq = Bl s.known (Ak e).1 (Ak e).2 from rfl, M5] at h2;simp only at h2;omega
theorem Val.known {l : List Evt} (h : Val l) : NodE l ∧ ∀ i : Bn, Bl (Bz l) i.1 i.2 = true ↔ ∃ e ∈ l, Ak e = i := by
 induction h with
 | nil => exact ⟨List.nodup_nil, fun i => by rw [M5]; simp [Bz]; omega⟩
 | @snoc l e hl he hw ih =>
   have ha := Re.1 hw;obtain ⟨n1, n2, n3⟩ := Aex ha;have hb := Cw ha.ck;rw [D9] at n3;have hnew : ¬ ∃ f ∈ l, Ak f = Ak e := fun q => by
    have := (ih.2 (Ak e)).2 q;have h2 := ha.new;rw [D9] at h2;rw [show Bl (Bz l) (Ak e).1 (Ak e).2 = Bl (Bz l) e.rep e.seq from rfl, h2] at this;cases this
   refine ⟨?_, fun i => ?_⟩
   · unfold NodE;rw [List.map_append, List.nodup_append];refine ⟨ih.1, by simp, fun a hm b hb q => hnew ?_⟩;obtain ⟨f, hf, rfl⟩ := List.mem_map.1 hm;simp at hb;exact ⟨f, hf, by rw [q, hb]⟩
   · rw [Ib];have key : Bl (A9 (Bz l) e.rep e.seq) i.1 i.2 = true ↔ Bl (Bz l) i.1 i.2 = true ∨ i = Ak e := by
      rw [M5, M5, Pw ⟨n1, n2⟩];by_cases hi : i = Ak e
      · subst hi;simp only [or_true, iff_true];refine ⟨hb.2.2.1, n1, n2, ?_⟩;simp only [if_true]; exact Nat.le_max_right _ _
      · simp only [hi, or_false];by_cases hr : i.1 = e.rep
        · have hq : i.2 ≠ e.seq := fun q => hi (Prod.ext hr q);rw [hr, if_pos rfl];omega
        · constructor
          · rintro ⟨a, b, c, d⟩;rw [if_neg (by omega)] at d;exact ⟨a, b, c, d⟩
          · rintro ⟨a, b, c, d⟩;rw [if_neg (by omega)];exact ⟨a, b, c, d⟩
     rw [key, ih.2];constructor
     · rintro (⟨f, hf, q⟩ | q)
       · exact ⟨f, by simp [hf], q⟩
       · exact ⟨e, by simp, q.symm⟩
     · rintro ⟨f, hf, q⟩;rcases List.mem_append.1 hf with hf | hf
       · exact .inl ⟨f, hf, q⟩
       · rw [List.mem_singleton] at hf; subst hf; exact .inr q.symm
theorem Val.nod {l : List Evt} (h : Val l) : NodE l := h.known.1
theorem Val.has {l : List Evt} (h : Val l) {i : Bn} : Bl (Bz l) i.1 i.2 = true ↔ ∃ e ∈ l, Ak e = i := h.known.2 i
theorem Val.mem {l : List Evt} (h : Val l) {e : Evt} (he : e ∈ l) : ∃ a b, l = a ++ e :: b ∧ Val a ∧ ev e ∧ Acc (Au a) e := by
 obtain ⟨a, b, rfl⟩ := List.append_of_mem he;have h2 : Val ((a ++ [e]) ++ b) := by rw [List.append_assoc]; exact h
 obtain ⟨h3, h4, h5⟩ := h2.pre.inv;exact ⟨a, b, rfl, h3, h4, Re.1 h5⟩
theorem Agb (l m : List Evt) : Rj (Bz l) (Bz (l ++ m)) :=
 Ol (P := fun m => Rj (Bz l) (Bz (l ++ m))) (fun i _ => by simp) (fun m e ih i hi => by
  rw [← List.append_assoc, Ib];exact Nat.le_trans (ih i hi) (Ub i)) m
theorem U5 {l : List Evt} (h : Val l) {e : Evt} (ha : Acc (Au l) e) {i : Bn} (k : Bl e.dep i.1 i.2 = true) : ∃ f ∈ l, Ak f = i := by
 refine h.has.1 (Arv (fun j hj => ?_) k);have := ha.dep j hj
 rwa [D9] at this
theorem Gm {l : List Evt} (h : Val l) {e : Evt} (ha : Acc (Au l) e) : ∀ f ∈ l, Ak f ≠ Ak e := fun f hf q => by
 have h1 := h.has.2 ⟨f, hf, q⟩;have h2 := ha.new;rw [D9] at h2;rw [show Bl (Bz l) (Ak e).1 (Ak e).2 = Bl (Bz l) e.rep e.seq from rfl, h2] at h1;cases h1
theorem Ai8 {e : Evt} {l : List Bn} {n : Int} (h : Eb l n e.dep = true) : ∀ b ∈ l, Bl e.dep b.1 b.2 = true := fun b hb => by
 unfold Eb Gy at h;simp only [Bool.and_eq_true, decide_eq_true_eq] at h;obtain ⟨j, hj⟩ := List.mem_iff_getElem?.1 hb;obtain ⟨hlt, hg⟩ := List.getElem?_eq_some_iff.1 hj;have := (h.2 j hlt).1;rw [hg] at this; exact this
theorem Nb {e : Evt} (h : Bk e = true) : F8 e = true ∧ Cs (Cq e) = true := by
 unfold Bk at h;simp only [Bool.and_eq_true, decide_eq_true_eq] at h;exact ⟨h.2.2.2, h.2.2.1⟩
theorem W9 {e : Evt} (h : Bk e = true) (hk : e.kind = 6 ∨ e.kind = 7) : ∀ b ∈ e.gone.l, Bl e.dep b.1 b.2 = true := by
 have hK := (Nb h).1;rcases hk with k | k
 · rw [Ur k] at hK; simp only [Bool.and_eq_true] at hK; exact Ai8 hK.2
 · rw [Uq k] at hK; simp only [Bool.and_eq_true] at hK; exact Ai8 hK.2.1
theorem Amt {e : Evt} (h : Bk e = true) (hk : e.kind = 3 ∨ e.kind = 4 ∨ e.kind = 5 ∨ e.kind = 6 ∨ e.kind = 7) : Bl e.dep e.orep e.oseq = true := by
 have hK := (Nb h).1;rcases hk with k | k | k | k | k
 · rw [J5 k] at hK; simp only [Bool.and_eq_true] at hK; exact hK.1
 · rw [N1 k] at hK; simp only [Bool.and_eq_true] at hK; exact hK.1
 · rw [N0 k] at hK; simp only [Bool.and_eq_true] at hK; exact hK.1
 · rw [Ur k] at hK; simp only [Bool.and_eq_true] at hK; exact hK.1
 · rw [Uq k] at hK; simp only [Bool.and_eq_true] at hK; exact hK.1
theorem W8 {e : Evt} (h : Bk e = true) (hk : ¬ (e.kind = 3 ∨ e.kind = 4 ∨ e.kind = 5 ∨ e.kind = 6 ∨ e.kind = 7)) : Ax e = (0, 0) := by
 obtain ⟨b1, b2, b3, b4, b5, b6, b7⟩ := Cw h;have hz := (Nb h).2;have h4 : e.kind = 1 ∨ e.kind = 2 ∨ e.kind = 8 ∨ e.kind = 9 := by omega
 have hz' : B0 e.orep e.oseq = true := by
  rcases h4 with k | k | k | k
  · rw [Aul k] at hz; simp only [Al, Bool.and_eq_true, Bool.or_eq_true, Bool.false_eq_true, false_or] at hz; exact hz.1
  · rw [Azx k] at hz; simp only [Al, Bool.and_eq_true, Bool.or_eq_true, Bool.false_eq_true, false_or] at hz; exact hz.1
  · rw [Azw k] at hz; simp only [Al, Bool.and_eq_true, Bool.or_eq_true, Bool.false_eq_true, false_or] at hz; exact hz.1
  · rw [Azv k] at hz; simp only [Al, Bool.and_eq_true, Bool.or_eq_true, Bool.false_eq_true, false_or] at hz; exact hz.1
 obtain ⟨h1, h2⟩ := of_decide_eq_true hz';exact Prod.ext h1 h2
theorem Awf {l : List Evt} {e : Evt} (h : Val l) (ha : Acc (Au l) e) (obj : Bn) {g : Evt} (hg : g ∈ l ++ [e]) : Hk g obj (Ak e) = false := by
 cases hq : Hk g obj (Ak e) with
 | false => rfl
 | true =>
   unfold Hk at hq;simp only [Bool.and_eq_true, decide_eq_true_eq] at hq;rcases List.mem_append.1 hg with hg | hg
   · obtain ⟨a, b, rfl, h1, _, h3⟩ := h.mem hg;obtain ⟨f, hf, hi⟩ := U5 h1 h3 (W9 h3.ck hq.1 _ hq.2.2);exact absurd hi (Gm h ha f (by simp [hf]))
   · rw [List.mem_singleton] at hg; subst hg;obtain ⟨f, hf, hi⟩ := U5 h ha (W9 ha.ck hq.1 _ hq.2.2);exact absurd hi (Gm h ha f hf)
theorem Aql {l : List Evt} {e : Evt} (h : Val l) (ha : Acc (Au l) e) {g : Evt} (hg : g ∈ l ++ [e]) : Ax g ≠ Ak e := fun q => by
 have base := Cw ha.ck;have hne : ∀ {g : Evt}, Bk g = true → Ax g = Ak e → Bl g.dep g.orep g.oseq = true := fun {g} hc q => by
  refine Amt hc (Classical.byContradiction fun hk => ?_);have := W8 hc hk;rw [this] at q;have q1 : (0 : Int) = e.rep := congrArg Prod.fst q;have := base.1;omega
 rcases List.mem_append.1 hg with hg | hg
 · obtain ⟨a, b, rfl, h1, _, h3⟩ := h.mem hg;obtain ⟨f, hf, hi⟩ := U5 h1 h3 (i := Ax g) (hne h3.ck q);rw [q] at hi;exact absurd hi (Gm h ha f (by simp [hf]))
 · rw [List.mem_singleton] at hg; subst hg;obtain ⟨f, hf, hi⟩ := U5 h ha (i := Ax g) (hne ha.ck q);rw [q] at hi;exact absurd hi (Gm h ha f hf)
theorem Si {l : List Evt} : ∀ m : List Evt, NodE m → Dq (C0 l m) ∧ ∀ x, x ∈ C0 l m ↔ ∃ e ∈ m, mkB e = true ∧ x = C7 l e := by
 refine Ol (fun _ => ⟨List.Pairwise.nil, by simp [C0]⟩) fun m e ih hn => ?_;have hn' : NodE m := by unfold NodE at *; rw [List.map_append] at hn; exact hn.sublist (List.sublist_append_left _ _)
 obtain ⟨h1, h2⟩ := ih hn';have grow : ∀ x : Ent, (∃ f ∈ m ++ [e], mkB f = true ∧ x = C7 l f) ↔ (∃ f ∈ m, mkB f = true ∧ x = C7 l f) ∨ (mkB e = true ∧ x = C7 l e) := fun o => by
  simp only [List.mem_append, List.mem_singleton];constructor
  · rintro ⟨f, hf | rfl, h⟩
    · exact .inl ⟨f, hf, h⟩
    · exact .inr h
  · rintro (⟨f, hf, h⟩ | h)
    · exact ⟨f, .inl hf, h⟩
    · exact ⟨e, .inr rfl, h⟩
 rw [Pm];by_cases hm : mkB e = true
 · rw [if_pos hm, Ye h1];have hnew : Hf (C0 l m) (C7 l e).id = none := Fz.2 fun x hx q => by
    obtain ⟨f, hf, _, rfl⟩ := (h2 x).1 hx;unfold NodE at hn;rw [List.map_append, List.nodup_append] at hn;exact hn.2.2 (Ak f) (List.mem_map_of_mem hf) (Ak e) (by simp) q
   have e1 : Afu (C0 l m) (C7 l e) = Oe (C0 l m) (C7 l e) := by
    unfold Afu; rw [if_neg (by rw [Ai7.2 hnew]; simp)]
   rw [e1];refine ⟨Vt h1 hnew, fun x => ?_⟩;rw [Aa0, h2, grow];exact ⟨fun q => q.elim (fun q => .inr ⟨hm, q⟩) .inl, fun q => q.elim .inr fun q => .inl q.2⟩
 · rw [if_neg hm];refine ⟨h1, fun x => ?_⟩;rw [h2, grow];exact ⟨.inl, fun q => q.resolve_right fun q => hm q.1⟩
theorem Agf (b : Bn) (x : Ent) : M2 b (M2 b x) = M2 b x := by
 unfold M2; simp only [Ab6, Ae4]
theorem Y2 (e : Evt) : ∀ (m l : List Ent), Fd e l m = l.map fun x => if m.any (fun y => decide (y.id = x.id) && En e y) = true then M2 (Ak e) x else x
 | [], l => by simp [Fd]
 | y :: m, l => by
   have ih := Y2 e m (if En e y = true then killL l y.id (Ak e) else l);unfold Fd at ih ⊢;simp only [List.foldl_cons];rw [ih];split
   · rename_i hg;unfold killL T7;rw [List.map_map];refine List.map_congr_left fun x hx => ?_;simp only [Function.comp];by_cases hy : x.id = y.id
     · simp only [if_pos hy];have e2 : List.any (y :: m) (fun z => decide (z.id = x.id) && En e z) = true := by simp [hy, hg]
       rw [if_pos e2];split
       · exact Agf _ _
       · rfl
     · simp only [if_neg hy];have e2 : List.any (y :: m) (fun z => decide (z.id = x.id) && En e z) = List.any m (fun z => decide (z.id = x.id) && En e z) := by
        rw [List.any_cons, decide_eq_false (fun q : y.id = x.id => hy q.symm), Bool.false_and, Bool.false_or]
       rw [e2]
   · rename_i hg;refine List.map_congr_left fun x hx => ?_;have e2 : List.any (y :: m) (fun z => decide (z.id = x.id) && En e z) = List.any m (fun z => decide (z.id = x.id) && En e z) := by
      simp [show En e y = false by simpa using hg]
     rw [e2]
theorem Ar0 {e : Evt} {l : List Ent} (hs : Dq l) : Fd e l l = l.map fun x => if En e x = true then M2 (Ak e) x else x := by
 rw [Y2];refine List.map_congr_left fun x hx => ?_;have : l.any (fun y => decide (y.id = x.id) && En e y) = En e x := by
  rw [Bool.eq_iff_iff, List.any_eq_true];constructor
  · rintro ⟨y, hy, h⟩;simp only [Bool.and_eq_true, decide_eq_true_eq] at h;have h1 := Adn hs hy;have h2 := Adn hs hx;rw [h.1] at h1;rw [h1] at h2; cases h2;exact h.2
  · exact fun h => ⟨x, hx, by simp [h]⟩
 rw [this]
theorem Ayl {l : List Evt} {e : Evt} (h : Val l) (ha : Acc (Au l) e) (obj : Bn) : byG (l ++ [e]) obj (Ak e) = fun _ => 0 := by
 unfold byG;have : ∀ m : List Evt, (∀ g ∈ m, Hk g obj (Ak e) = false) → m.foldl (fun g f => if Hk f obj (Ak e) = true then A9 g f.rep f.seq else g) (fun _ => 0 : Vc) = fun _ => 0 := fun m hm => by
  induction m with
  | nil => rfl
  | cons g m ih =>
    rw [List.foldl_cons, if_neg (by rw [hm g List.mem_cons_self]; simp)];exact ih fun f hf => hm f (List.mem_cons_of_mem _ hf)
 exact this _ fun g hg => Awf h ha obj hg
theorem Asq {l : List Evt} {e : Evt} (h : Val l) (ha : Acc (Au l) e) : C7 (l ++ [e]) e = Gb e (Ep e) := by
 unfold C7 Gb; rw [Ayl h ha]
theorem W2 (l : List Evt) (e f : Evt) : C7 (l ++ [e]) f = if Hk e (Ep f) (Ak f) = true then M2 (Ak e) (C7 l f) else C7 l f := by
 unfold C7;rw [Q9];split
 · unfold M2; simp only;rw [show A9 (byG l (Ep f) (Ak f)) e.rep e.seq = A9 (byG l (Ep f) (Ak f)) (Ak e).1 (Ak e).2 from rfl, Ab4]
 · rfl
theorem Ww (l : List Evt) (e f : Evt) (hk : e.kind = 6 ∨ e.kind = 7) : Hk e (Ep f) (Ak f) = En e (C7 l f) := by
 unfold Hk En C7;simp only [hk, decide_true, Bool.true_and];congr 1;exact decide_eq_decide.2 ⟨Eq.symm, Eq.symm⟩
theorem Ami {l : List Evt} {e : Evt} (h : Val l) (ha : Acc (Au l) e) :
 C0 (l ++ [e]) (l ++ [e]) = if e.kind = 1 ∨ e.kind = 2 then Rc (C0 l l) (Gb e (Ak e)) else if e.kind = 7 then Rc (Fd e (C0 l l) (C0 l l)) (Gb e (Ax e)) else if e.kind = 6 then Fd e (C0 l l) (C0 l l) else C0 l l := by
 have hn := h.nod;have hn2 : NodE (l ++ [e]) := by
  unfold NodE;rw [List.map_append, List.nodup_append];refine ⟨hn, by simp, fun a hm b hb q => ?_⟩;obtain ⟨f, hf, rfl⟩ := List.mem_map.1 hm;simp at hb;exact Gm h ha f hf (by rw [q, hb])
 obtain ⟨s1, m1⟩ := Si (l := l) l hn;obtain ⟨s2, m2⟩ := Si (l := l ++ [e]) (l ++ [e]) hn2;have hlook : ∀ {m : List Ent}, (∀ x ∈ m, ∃ f ∈ l, x.id = Ak f) → Hf m (Ak e) = none := fun hm => Fz.2 fun x hx q => by
  obtain ⟨f, hf, hi⟩ := hm x hx;exact Gm h ha f hf (by rw [← hi, q])
 have hadd : ∀ {m : List Ent} {o : Bn}, Dq m → (∀ x ∈ m, ∃ f ∈ l, x.id = Ak f) → Dq (Rc m (Gb e o)) ∧ ∀ x, x ∈ Rc m (Gb e o) ↔ x = Gb e o ∨ x ∈ m := fun {m o} hs hm => by
  have hl := hlook hm;have e1 : Rc m (Gb e o) = Oe m (Gb e o) := by unfold Rc; rw [if_neg (by rw [show Qp m (Gb e o).id = false from Ai7.2 hl]; simp)]
  rw [e1];exact ⟨Vt hs hl, fun x => Aa0⟩
 have hold : ∀ x ∈ C0 l l, ∃ f ∈ l, x.id = Ak f := fun x hx => by
  obtain ⟨f, hf, _, rfl⟩ := (m1 x).1 hx; exact ⟨f, hf, rfl⟩
 have hgone := Lr (e := e) s1 (C0 l l);have hgeq := Ar0 (e := e) s1;have hgold : ∀ x ∈ Fd e (C0 l l) (C0 l l), ∃ f ∈ l, x.id = Ak f := fun x hx => by
  rw [hgeq] at hx;obtain ⟨y, hy, rfl⟩ := List.mem_map.1 hx;obtain ⟨f, hf, hi⟩ := hold y hy;refine ⟨f, hf, ?_⟩;split <;> exact hi
 have mG : (e.kind = 6 ∨ e.kind = 7) → ∀ x, x ∈ Fd e (C0 l l) (C0 l l) ↔ ∃ f ∈ l, mkB f = true ∧ x = C7 (l ++ [e]) f := fun hk x => by
  rw [hgeq, List.mem_map];constructor
  · rintro ⟨y, hy, rfl⟩;obtain ⟨f, hf, hm, rfl⟩ := (m1 y).1 hy;exact ⟨f, hf, hm, by rw [W2, Ww l e f hk]⟩
  · rintro ⟨f, hf, hm, rfl⟩;exact ⟨C7 l f, (m1 _).2 ⟨f, hf, hm, rfl⟩, by rw [W2, Ww l e f hk]⟩
 have mN : ¬ (e.kind = 6 ∨ e.kind = 7) → ∀ x, x ∈ C0 l l ↔ ∃ f ∈ l, mkB f = true ∧ x = C7 (l ++ [e]) f := fun hk x => by
  rw [m1];have : ∀ f, C7 (l ++ [e]) f = C7 l f := fun f => by
   rw [W2, if_neg (by unfold Hk; simp [hk])]
  exact ⟨fun ⟨f, a, b, c⟩ => ⟨f, a, b, by rw [this, c]⟩, fun ⟨f, a, b, c⟩ => ⟨f, a, b, by rw [← this, c]⟩⟩
 have grow : ∀ x : Ent, (∃ f ∈ l ++ [e], mkB f = true ∧ x = C7 (l ++ [e]) f) ↔ (mkB e = true ∧ x = Gb e (Ep e)) ∨ (∃ f ∈ l, mkB f = true ∧ x = C7 (l ++ [e]) f) := fun x => by
  rw [← Asq h ha];simp only [List.mem_append, List.mem_singleton];constructor
  · rintro ⟨f, hf | rfl, h⟩
    · exact .inr ⟨f, hf, h⟩
    · exact .inl h
  · rintro (h | ⟨f, hf, h⟩)
    · exact ⟨e, .inr rfl, h⟩
    · exact ⟨f, .inl hf, h⟩
 by_cases h12 : e.kind = 1 ∨ e.kind = 2
 · rw [if_pos h12];have hm : mkB e = true := decide_eq_true (by omega);have ho : Ep e = Ak e := if_neg (by omega);obtain ⟨a1, a2⟩ := hadd (o := Ak e) s1 hold;refine Nt s2 a1 fun x => ?_;rw [m2, grow, a2, mN (by omega), ho];simp [hm]
 rw [if_neg h12];by_cases h7 : e.kind = 7
 · rw [if_pos h7];have hm : mkB e = true := decide_eq_true (by omega);have ho : Ep e = Ax e := if_pos h7;obtain ⟨a1, a2⟩ := hadd (o := Ax e) hgone hgold;refine Nt s2 a1 fun x => ?_;rw [m2, grow, a2, mG (.inr h7), ho];simp [hm]
 rw [if_neg h7];have hm : mkB e = false := decide_eq_false (by omega);by_cases h6 : e.kind = 6
 · rw [if_pos h6];refine Nt s2 hgone fun x => ?_;rw [m2, grow, mG (.inl h6)];simp [hm]
 · rw [if_neg h6];refine Nt s2 s1 fun x => ?_;rw [m2, grow, mN (by omega)];simp [hm]
theorem Nn {l : List Evt} {e : Evt} (h : Val l) (ha : Acc (Au l) e) : NodE (l ++ [e]) := by
 unfold NodE;rw [List.map_append, List.nodup_append];refine ⟨h.nod, by simp, fun a hm b hb q => ?_⟩;obtain ⟨f, hf, rfl⟩ := List.mem_map.1 hm;simp at hb;exact Gm h ha f hf (by rw [q, hb])
theorem Y7 {l : List Evt} (hn : NodE l) {e : Evt} (he : e ∈ l) : Ig l (Ak e) = some e := by
 unfold Ig
 induction l with
 | nil => cases he
 | cons f l ih =>
   unfold NodE at hn;rw [List.map_cons, List.nodup_cons] at hn;rw [List.find?_cons];rcases List.mem_cons.1 he with rfl | he
   · simp
   · have : Ak f ≠ Ak e := fun q => hn.1 (q ▸ List.mem_map_of_mem he);rw [decide_eq_false this];exact ih hn.2 he
theorem Amf {l : List Evt} {i : Bn} (t : List Evt) (h : ∃ f ∈ l, Ak f = i) : Ig (l ++ t) i = Ig l i := by
 obtain ⟨f, hf, hi⟩ := h;unfold Ig;rw [List.find?_append];cases hq : List.find? (fun e => decide (Ak e = i)) l with
 | some x => rfl
 | none => exact absurd hi (by simpa using List.find?_eq_none.1 hq f hf)
theorem Sf (l : List Evt) (e : Evt) : ∀ m : List Evt, (C5 l m e).vers = Cx l (Ak e) l :=
 Ol rfl fun m f ih => by
  rw [Jc];unfold D1;split
  · split
    · split <;> exact ih
    · split <;> exact ih
  · exact ih
theorem Qf {l : List Evt} (hn : NodE l) : Eh (Au l).objs ∧ (Au l).objs.length ≤ l.length ∧ ∀ o, o ∈ (Au l).objs ↔ ∃ e ∈ l, (e.kind = 1 ∨ e.kind = 2) ∧ o = C5 l l e := Ra l.length l rfl hn
theorem Af5 {l : List Obj} {i : Bn} {o : Obj} (h : E3 l i = some o) : o ∈ l ∧ o.id = i := ⟨List.mem_of_getElem? (Gr h).1, (Gr h).2⟩
theorem Rd {l : List Evt} {e : Evt} (h : Val l) (ha : Acc (Au l) e) (hk : e.kind = 3 ∨ e.kind = 4 ∨ e.kind = 5 ∨ e.kind = 6 ∨ e.kind = 7) : ∃ f ∈ l, (f.kind = 1 ∨ f.kind = 2) ∧ Ak f = Ax e ∧ E3 (Au l).objs (Ax e) = some (C5 l l f) ∧ (Oz e = true → (C5 l l f).dir = false ∧ ¬ Dg (Cx l (Ax e) l) e.base.l) := by
 have hw := ha.why;unfold T3 at hw;rw [if_neg (by omega), if_neg (by omega)] at hw;cases ho : E3 (Au l).objs (Ax e) with
 | none => rw [ho] at hw; cases hw
 | some o =>
   rw [ho] at hw;obtain ⟨h1, h2⟩ := Af5 ho;obtain ⟨f, hf, hk12, rfl⟩ := ((Qf h.nod).2.2 o).1 h1;have h2' : Ak f = Ax e := by rw [← I5 l f l]; exact h2
   refine ⟨f, hf, hk12, h2', rfl, fun hwr => ?_⟩;have hk3 := of_decide_eq_true hwr;simp only at hw;rw [if_neg (by omega), if_neg (by omega)] at hw;split at hw
   · cases hw
   · split at hw
     · cases hw
     · rename_i hd hm;rw [Sf, h2'] at hm;exact ⟨by simpa using hd, hm⟩
theorem Jq {l : List Evt} {e : Evt} (h : Val l) (ha : Acc (Au l) e) (hw : Oz e = true) : ∀ b ∈ e.base.l, ∃ v, Bo (Cx l (Ax e) l) b.1 b.2 = some v ∧ ∃ g ∈ l, Oz g = true ∧ Ax g = Ax e ∧ Ak g = b ∧ v = Gp l l g := fun b hb => by
 have hk3 := of_decide_eq_true hw;obtain ⟨f, hf, hk, hi, ho, hm⟩ := Rd h ha (by omega);obtain ⟨_, hm⟩ := hm hw;cases hv : Bo (Cx l (Ax e) l) b.1 b.2 with
 | none => exact absurd ⟨b, hb, hv⟩ hm
 | some v =>
   obtain ⟨h1, h2⟩ := Y6 hv;obtain ⟨g, hg, ⟨hw, ho⟩, rfl⟩ := (Nm l.length l rfl).1 h1;exact ⟨_, rfl, g, hg, hw, ho, Prod.ext h2.1 h2.2, rfl⟩
noncomputable def Zs (l : List Evt) (e : Evt) : List UInt8 := match e.base.l with
 | [] => []
 | b :: _ => Dc l l.length b
theorem Xb {e : Evt} (h : Bk e = true) (hw : Oz e = true) : e.data.length ≤ 200 := by
 have hK := Nb h;have hk := of_decide_eq_true hw;rcases hk with k | k | k
 · have h1 := hK.1;rw [J5 k] at h1;simp only [Bool.and_eq_true, Cv, decide_eq_true_eq] at h1;omega
 · have h1 := hK.2;rw [A4y k] at h1;simp only [Al, Bool.and_eq_true, Bool.or_eq_true, decide_eq_true_eq, Bool.false_eq_true, false_or, true_or] at h1;have : e.data = [] := h1.2.2.2.2.2.1;rw [this]; simp
 · have h1 := hK.1;rw [N0 k] at h1;simp only [Bool.and_eq_true, Cv, decide_eq_true_eq] at h1;omega
theorem Aj9 {e : Evt} (h : Bk e = true) (hw : Oz e = true) {was : List UInt8} (hl : was.length ≤ 200) : (Ge e was).length ≤ 200 := by
 have hd := Xb h hw;unfold Ge;split
 · exact hd
 · split
   · unfold Xx; split
     · simp
     · rw [Aee]; omega
   · unfold Kj; split
     · simp
     · rename_i h; unfold D2 at h; rw [V8]; omega
theorem Np {l : List Evt} (h : Val l) : ∀ g ∈ l, Oz g = true → (Dc l l.length (Ak g)).length ≤ 200 ∧ ∀ t n, l.length ≤ n → Dc (l ++ t) n (Ak g) = Dc l l.length (Ak g) := by
 induction h with
 | nil => intro g hg; cases hg
 | @snoc l e hl he hw ih =>
   have ha := Re.1 hw;intro g hg hgw;have hlen : (l ++ [e]).length = l.length + 1 := by simp
   rcases List.mem_append.1 hg with hg | hg
   · obtain ⟨h1, h2⟩ := ih g hg hgw;have e1 : Dc (l ++ [e]) (l ++ [e]).length (Ak g) = Dc l l.length (Ak g) := h2 [e] _ (by omega);rw [e1];refine ⟨h1, fun t n hn => ?_⟩;rw [List.append_assoc];exact h2 _ n (by omega)
   · rw [List.mem_singleton] at hg; subst hg;have key : ∀ t n, (l ++ [g]).length ≤ n → Dc ((l ++ [g]) ++ t) n (Ak g) = Ge g (Zs l g) := fun t n hn => by
      obtain ⟨n, rfl⟩ : ∃ k, n = k + 1 := ⟨n - 1, by omega⟩
      simp only [Dc];rw [Amf t ⟨g, by simp, rfl⟩, Y7 (Nn hl ha) (by simp)];simp only;congr 1;unfold Zs;cases hb : g.base.l with
      | nil => rfl
      | cons b r =>
        simp only;obtain ⟨v, hv, f, hf, hfw, _, rfl, _⟩ := Jq hl ha hgw b (by rw [hb]; simp);rw [List.append_assoc];exact (ih f hf hfw).2 _ n (by omega)
     have e1 : Dc (l ++ [g]) (l ++ [g]).length (Ak g) = Ge g (Zs l g) := by
      have := key [] (l ++ [g]).length (Nat.le_refl _)
      rwa [List.append_nil] at this
     rw [e1];refine ⟨Aj9 ha.ck hgw ?_, key⟩;unfold Zs;cases hb : g.base.l with
     | nil => simp
     | cons b r =>
       simp only;obtain ⟨v, hv, f, hf, hfw, _, rfl, _⟩ := Jq hl ha hgw b (by rw [hb]; simp);exact (ih f hf hfw).1
theorem Amy {l : List Evt} {e : Evt} (h : Val l) (ha : Acc (Au l) e) (hw : Oz e = true) : Dc (l ++ [e]) (l ++ [e]).length (Ak e) = Ge e (Zs l e) := by
 rw [show (l ++ [e]).length = l.length + 1 from by simp];simp only [Dc];rw [Y7 (Nn h ha) (by simp)];simp only;congr 1;unfold Zs;cases hb : e.base.l with
 | nil => rfl
 | cons b r =>
   simp only;obtain ⟨v, hv, f, hf, hfw, _, rfl, _⟩ := Jq h ha hw b (by rw [hb]; simp);exact (Np h f hf hfw).2 _ _ (Nat.le_refl _)
theorem Ab5 {l : List Evt} {e : Evt} (h : Val l) {g : Evt} (hg : g ∈ l) (hw : Oz g = true) : Gp (l ++ [e]) (l ++ [e]) g = if Y0 e (Ax g) (Ak g) = true then Em (Gp l l g) e.rep e.seq else Gp l l g := by
 have hb := (Np h g hg hw).2 [e] (l ++ [e]).length (by simp);unfold Gp;rw [hb, Ad5];split <;> rfl
theorem Awg {l : List Evt} {e : Evt} (h : Val l) (ha : Acc (Au l) e) (obj : Bn) {g : Evt} (hg : g ∈ l ++ [e]) : Y0 g obj (Ak e) = false := by
 cases hq : Y0 g obj (Ak e) with
 | false => rfl
 | true =>
   unfold Y0 at hq;simp only [Bool.and_eq_true, decide_eq_true_eq] at hq;rcases List.mem_append.1 hg with hg | hg
   · obtain ⟨a, b, rfl, h1, _, h3⟩ := h.mem hg;obtain ⟨_, _, f, hf, _, _, hi, _⟩ := Jq h1 h3 hq.1 _ hq.2.2;exact absurd hi (Gm h ha f (by simp [hf]))
   · rw [List.mem_singleton] at hg; subst hg;obtain ⟨_, _, f, hf, _, _, hi, _⟩ := Jq h ha hq.1 _ hq.2.2;exact absurd hi (Gm h ha f hf)
theorem Axi {l : List Evt} {e : Evt} (h : Val l) (ha : Acc (Au l) e) (obj : Bn) : gvG (l ++ [e]) obj (Ak e) = fun _ => 0 := by
 unfold gvG;have : ∀ m : List Evt, (∀ g ∈ m, Y0 g obj (Ak e) = false) → m.foldl (fun a g => if Y0 g obj (Ak e) = true then A9 a g.rep g.seq else a) (fun _ => 0 : Vc) = fun _ => 0 := fun m hm => by
  induction m with
  | nil => rfl
  | cons g m ih =>
    rw [List.foldl_cons, if_neg (by rw [hm g List.mem_cons_self]; simp)];exact ih fun f hf => hm f (List.mem_cons_of_mem _ hf)
 exact this _ fun g hg => Awg h ha obj hg
theorem Gg {l : List Evt} (h : NodE l) (obj : Bn) : Cu (Cx l obj l) ∧ (Cx l obj l).length ≤ l.length ∧ ∀ v, v ∈ Cx l obj l ↔ ∃ e ∈ l, (Oz e = true ∧ Ax e = obj) ∧ v = Gp l l e := ⟨(I1 l.length l rfl h).1, (I1 l.length l rfl h).2, fun v => Nm l.length l rfl⟩
theorem Nl {l : List Evt} {e : Evt} (h : Val l) (ha : Acc (Au l) e) {obj : Bn} (hx : ¬ (Oz e = true ∧ Ax e = obj)) : Cx (l ++ [e]) obj (l ++ [e]) = Cx l obj l := by
 obtain ⟨s1, _, m1⟩ := Gg h.nod obj;obtain ⟨s2, _, m2⟩ := Gg (Nn h ha) obj;refine Ya s2 s1 fun v => ?_;have key : ∀ g ∈ l, Oz g = true ∧ Ax g = obj → Gp (l ++ [e]) (l ++ [e]) g = Gp l l g := fun g hg ⟨hw, ho⟩ => by
  rw [Ab5 h hg hw, if_neg];unfold Y0;rw [ho];simp only [Bool.and_eq_true, decide_eq_true_eq];exact fun q => hx ⟨q.1, q.2.1⟩
 rw [m1, m2];constructor
 · rintro ⟨g, hg, hc, rfl⟩;rcases List.mem_append.1 hg with hg | hg
   · exact ⟨g, hg, hc, key g hg hc⟩
   · rw [List.mem_singleton] at hg; subst hg; exact absurd hc hx
 · rintro ⟨g, hg, hc, rfl⟩;exact ⟨g, List.mem_append_left _ hg, hc, (key g hg hc).symm⟩
theorem Am0 {l : List Evt} {e : Evt} (h : Val l) (ha : Acc (Au l) e) (hw : Oz e = true) : E9 (Cx l (Ax e) l) e = Ge e (Zs l e) := by
 have hd : ∀ v ∈ Cx l (Ax e) l, v.data.length ≤ 200 := fun v hv => by
  obtain ⟨g, hg, hc, rfl⟩ := ((Gg h.nod (Ax e)).2.2 v).1 hv;exact (Np h g hg hc.1).1
 have hk := of_decide_eq_true hw;have hf := Xa ha.ck hk hd;have hwas : (Dv (Cx l (Ax e) l) (Eg e).1 (Eg e).2).1 = Zs l e := by
  unfold Eg Zs;cases hb : e.base.l with
  | nil => simp only; rw [Q5 ⟨rfl, rfl⟩]
  | cons b r =>
    simp only;obtain ⟨v, hv, f, hf, hfw, _, rfl, rfl⟩ := Jq h ha hw b (by rw [hb]; simp);obtain ⟨a, c, _, _, _, h3⟩ := h.mem hf;have hbp := Cw h3.ck;have hbp1 : 1 ≤ f.rep := hbp.1;rw [Ly (fun q => by have := q.1; simp only at this; omega) hv];rfl
 have hwl : (Dv (Cx l (Ax e) l) (Eg e).1 (Eg e).2).1.length ≤ 200 := Za hd _ _;unfold E9 Ge;rw [hwas] at hwl ⊢;by_cases h5 : e.kind = 5
 · rw [if_pos h5, if_pos h5]
 rw [if_neg h5, if_neg h5];obtain ⟨o1, o2⟩ := hf.off h5;by_cases h4 : e.kind = 4
 · rw [if_pos h4, if_pos h4];unfold Xx; rw [if_neg (by omega)]
 · rw [if_neg h4, if_neg h4];have hl := hf.len (by omega);unfold Kj; rw [if_neg (by unfold D2; omega)]
theorem Any {l : List Evt} {e : Evt} (h : Val l) (ha : Acc (Au l) e) (hw : Oz e = true) : Cx (l ++ [e]) (Ax e) (l ++ [e]) = Fe (Cx l (Ax e) l) e.base.l (Rt e.rep e.seq (E9 (Cx l (Ax e) l) e)) := by
 obtain ⟨s1, _, m1⟩ := Gg h.nod (Ax e);obtain ⟨s2, _, m2⟩ := Gg (Nn h ha) (Ax e);have hnew : Bo (Cx l (Ax e) l) e.rep e.seq = none := Pj.2 fun v hv ⟨h1, h2⟩ => by
  obtain ⟨g, hg, _, rfl⟩ := (m1 v).1 hv;exact Gm h ha g hg (Prod.ext h1 h2)
 have hE : Gp (l ++ [e]) (l ++ [e]) e = Rt e.rep e.seq (E9 (Cx l (Ax e) l) e) := by
  unfold Gp Rt;rw [Amy h ha hw, Axi h ha, Am0 h ha hw]
 refine Ya s2 (Aev s1 hnew) fun v => ?_;rw [m2, Aqx, ← hE];have key : ∀ g ∈ l, Oz g = true ∧ Ax g = Ax e → Gp (l ++ [e]) (l ++ [e]) g = Ot e.base.l e.rep e.seq (Gp l l g) := fun g hg ⟨hgw, ho⟩ => by
  rw [Ab5 h hg hgw];unfold Ot;have : Y0 e (Ax g) (Ak g) = decide (((Gp l l g).rep, (Gp l l g).seq) ∈ e.base.l) := by
   unfold Y0;rw [hw, ho];simp; rfl
  rw [this];by_cases hin : ((Gp l l g).rep, (Gp l l g).seq) ∈ e.base.l
  · rw [if_pos (decide_eq_true hin), if_pos hin]
  · rw [if_neg (by simpa using hin), if_neg hin]
 constructor
 · rintro ⟨g, hg, hc, rfl⟩;rcases List.mem_append.1 hg with hg | hg
   · exact .inr ⟨Gp l l g, (m1 _).2 ⟨g, hg, hc, rfl⟩, key g hg hc⟩
   · rw [List.mem_singleton] at hg; subst hg; exact .inl rfl
 · rintro (rfl | ⟨y, hy, rfl⟩)
   · exact ⟨e, by simp, ⟨hw, rfl⟩, rfl⟩
   · obtain ⟨g, hg, hc, rfl⟩ := (m1 y).1 hy;exact ⟨g, List.mem_append_left _ hg, hc, (key g hg hc).symm⟩
theorem Afe (e f : Evt) (o : Obj) (v : List Ver) : D1 e { o with vers := v } f = { D1 e o f with vers := v } := by
 unfold D1;by_cases h1 : Ax f = Ak e
 · rw [if_pos h1, if_pos h1];by_cases h7 : f.kind = 7
   · rw [if_pos h7, if_pos h7];by_cases hl : Ck o.last.1 o.last.2 f.rep f.seq = true
     · rw [if_pos hl, if_pos hl]
     · rw [if_neg hl, if_neg hl]
   · rw [if_neg h7, if_neg h7];by_cases h6 : f.kind = 6
     · rw [if_pos h6, if_pos h6]
     · rw [if_neg h6, if_neg h6]
 · rw [if_neg h1, if_neg h1]
theorem Awb (l L : List Evt) (e : Evt) : ∀ m : List Evt, C5 L m e = { C5 l m e with vers := Cx L (Ak e) L } :=
 Ol rfl fun m f ih => by
  rw [Jc, Jc, ih, Afe]
theorem Aqe (l : List Evt) (e f : Evt) : C5 (l ++ [e]) (l ++ [e]) f = { D1 f (C5 l l f) e with vers := Cx (l ++ [e]) (Ak f) (l ++ [e]) } := by
 rw [Awb l, Jc]
theorem Adf {l : List Evt} {e : Evt} (h : Val l) (ha : Acc (Au l) e) : C5 (l ++ [e]) (l ++ [e]) e = Wh e := by
 have hv : Cx (l ++ [e]) (Ak e) (l ++ [e]) = [] := by
  refine List.eq_nil_iff_forall_not_mem.2 fun v hv => ?_;obtain ⟨g, hg, hc, _⟩ := ((Gg (Nn h ha) (Ak e)).2.2 v).1 hv;exact Aql h ha hg hc.2
 unfold C5 Wh;rw [hv];have : ∀ (m : List Evt) (o : Obj), (∀ g ∈ m, Ax g ≠ Ak e) → m.foldl (D1 e) o = o := fun m => by
  induction m with
  | nil => intro o _; rfl
  | cons g m ih =>
    intro o hm;rw [List.foldl_cons, show D1 e o g = o from if_neg (hm g List.mem_cons_self)];exact ih o fun f hf => hm f (List.mem_cons_of_mem _ hf)
 exact this _ _ fun g hg => Aql h ha hg
def GO (e : Evt) (x : Obj) : Obj :=
 if e.kind = 7 then Wj e x
 else if e.kind = 6 then { x with seen := Cn x.seen (A9 e.dep e.rep e.seq) }
 else { x with vers := Fe x.vers e.base.l (Rt e.rep e.seq (E9 x.vers e)) }
theorem Aqs (e : Evt) (x : Obj) : (Wj e x).id = x.id := by unfold Wj; split <;> rfl
theorem A9e (e : Evt) (x : Obj) : (GO e x).id = x.id := by
 unfold GO;split
 · exact Aqs e x
 · split <;> rfl
theorem Aoz {l : List Obj} (hs : Eh l) {i : Bn} {o : Obj} (h : E3 l i = some o) (g : Obj → Obj) : l.set (Bs l i) (g o) = l.map fun x => if x.id = i then g x else x := by
 obtain ⟨h1, h2⟩ := Gr h;apply List.ext_getElem?;intro j;rw [List.getElem?_map];by_cases hj : Bs l i = j
 · subst hj;rw [List.getElem?_set_self (List.getElem?_eq_some_iff.1 h1).1, h1];simp only [Option.map_some];rw [if_pos h2]
 · rw [List.getElem?_set_ne hj];cases hy : l[j]? with
   | none => rfl
   | some y =>
     simp only [Option.map_some];rw [if_neg];intro q;rcases Nat.lt_or_gt_of_ne hj with k | k
     · have := Kq hs h1 hy k; rw [h2, q] at this; exact F4 this
     · have := Kq hs hy h1 k; rw [h2, q] at this; exact F4 this
theorem Ax4 {s : St} (hs : Eh s.objs) {e : Evt} (hk : e.kind = 3 ∨ e.kind = 4 ∨ e.kind = 5 ∨ e.kind = 6 ∨ e.kind = 7) {o : Obj} (h : E3 s.objs (Ax e) = some o) : (doS s e).objs = s.objs.map fun x => if x.id = Ax e then GO e x else x := by
 unfold doS;rw [if_neg (by omega), if_neg (by omega), if_neg (by omega), h, ← Aoz hs h (GO e)];simp only;unfold GO;by_cases h7 : e.kind = 7
 · rw [if_pos h7, if_pos h7]; rfl
 rw [if_neg h7, if_neg h7];by_cases h6 : e.kind = 6
 · rw [if_pos h6, if_pos h6]; rfl
 · rw [if_neg h6, if_neg h6]; rfl
theorem Ake {l : List Obj} (hs : Eh l) {g : Obj → Obj} (hg : ∀ x, (g x).id = x.id) : Eh (l.map g) := by
 rw [Vv] at *;rw [List.pairwise_map];exact hs.imp fun {a b} h => by rw [hg, hg]; exact h
theorem A09 {l : List Evt} (h : Val l) {f : Evt} (hf : f ∈ l) : Ak f ≠ (0, 0) := fun q => by
 obtain ⟨a, b, _, _, _, h3⟩ := h.mem hf;have h1 : 1 ≤ f.rep := (Cw h3.ck).1;have h2 : f.rep = 0 := congrArg Prod.fst q;omega
theorem Aiu {l : List Evt} {e : Evt} (h : Val l) (ha : Acc (Au l) e) {f : Evt} (hf : f ∈ l) :
 C5 (l ++ [e]) (l ++ [e]) f = if (e.kind = 3 ∨ e.kind = 4 ∨ e.kind = 5 ∨ e.kind = 6 ∨ e.kind = 7) ∧ Ak f = Ax e then GO e (C5 l l f) else C5 l l f := by
 rw [Aqe];have hov := Sf l f l;by_cases hk : e.kind = 3 ∨ e.kind = 4 ∨ e.kind = 5 ∨ e.kind = 6 ∨ e.kind = 7;rotate_left
 · rw [if_neg fun q => hk q.1];have hw : Oz e = false := decide_eq_false (by omega);rw [Nl h ha (fun q => by rw [hw] at q; simp at q), ← hov];have h0 := W8 ha.ck hk;have : D1 f (C5 l l f) e = C5 l l f := if_neg (by rw [h0]; exact fun q => A09 h hf q.symm);rw [this]
 by_cases hi : Ak f = Ax e;rotate_left
 · rw [if_neg fun q => hi q.2, Nl h ha (fun q => hi q.2.symm), ← hov];have : D1 f (C5 l l f) e = C5 l l f := if_neg fun q => hi q.symm;rw [this]
 rw [if_pos ⟨hk, hi⟩];unfold D1 GO;rw [if_pos hi.symm];by_cases h7 : e.kind = 7
 · have hw : Oz e = false := decide_eq_false (by omega);rw [if_pos h7, if_pos h7, Nl h ha (fun q => by rw [hw] at q; simp at q), ← hov];unfold Wj;split <;> rfl
 rw [if_neg h7, if_neg h7];by_cases h6 : e.kind = 6
 · have hw : Oz e = false := decide_eq_false (by omega);rw [if_pos h6, if_pos h6, Nl h ha (fun q => by rw [hw] at q; simp at q), ← hov]
 · rw [if_neg h6, if_neg h6];have hw : Oz e = true := decide_eq_true (by omega);rw [hi, Any h ha hw, hov, hi]
theorem Ak4 {l : List Evt} {e : Evt} (h : Val l) (ha : Acc (Au l) e) : (Au (l ++ [e])).objs = (Hd (Au l) e).objs := by
 obtain ⟨s1, _, m1⟩ := Qf h.nod;obtain ⟨s2, _, m2⟩ := Qf (Nn h ha);have hkn : (G6 (Au l) e).objs = (Au l).objs := rfl;by_cases hk : e.kind = 3 ∨ e.kind = 4 ∨ e.kind = 5 ∨ e.kind = 6 ∨ e.kind = 7
 · obtain ⟨f0, hf0, _, _, ho, _⟩ := Rd h ha hk;have hd := Ax4 (s := G6 (Au l) e) s1 hk ho;unfold Hd;rw [hd];refine R3 s2 (Ake s1 fun x => by split; exact A9e e x; rfl) fun x => ?_;rw [m2, List.mem_map];have key : ∀ f ∈ l, C5 (l ++ [e]) (l ++ [e]) f = if (C5 l l f).id = Ax e then GO e (C5 l l f) else C5 l l f := fun f hf => by
    rw [Aiu h ha hf, I5];by_cases hi : Ak f = Ax e
    · rw [if_pos ⟨hk, hi⟩, if_pos hi]
    · rw [if_neg fun q => hi q.2, if_neg hi]
   constructor
   · rintro ⟨f, hf, hc, rfl⟩;rcases List.mem_append.1 hf with hf | hf
     · exact ⟨C5 l l f, (m1 _).2 ⟨f, hf, hc, rfl⟩, (key f hf).symm⟩
     · rw [List.mem_singleton] at hf; subst hf; omega
   · rintro ⟨y, hy, rfl⟩;obtain ⟨f, hf, hc, rfl⟩ := (m1 y).1 hy;exact ⟨f, List.mem_append_left _ hf, hc, (key f hf).symm⟩
 have key : ∀ f ∈ l, C5 (l ++ [e]) (l ++ [e]) f = C5 l l f := fun f hf => by
  rw [Aiu h ha hf, if_neg fun q => hk q.1]
 have hb := Cw ha.ck;obtain ⟨_, _, _, _, _, b6, b7⟩ := hb;by_cases h12 : e.kind = 1 ∨ e.kind = 2
 · have hd : (Hd (Au l) e).objs = Hh (Au l).objs (Wh e) := by
    unfold Hd doS;rw [if_neg (by omega), if_neg (by omega), if_pos h12]; rfl
   rw [hd];have hne : ∀ x ∈ (Au l).objs, x.id ≠ (Wh e).id := fun x hx q => by
    obtain ⟨f, hf, hc, rfl⟩ := (m1 x).1 hx;rw [I5] at q;exact Gm h ha f hf q
   refine R3 s2 (Yb s1 hne) fun x => ?_;rw [m2, Adj];constructor
   · rintro ⟨f, hf, hc, rfl⟩;rcases List.mem_append.1 hf with hf | hf
     · exact .inr ((m1 _).2 ⟨f, hf, hc, key f hf⟩)
     · rw [List.mem_singleton] at hf; subst hf; exact .inl (Adf h ha)
   · rintro (rfl | hx)
     · exact ⟨e, by simp, h12, (Adf h ha).symm⟩
     · obtain ⟨f, hf, hc, rfl⟩ := (m1 x).1 hx;exact ⟨f, List.mem_append_left _ hf, hc, (key f hf).symm⟩
 · have hd : (Hd (Au l) e).objs = (Au l).objs := by
    unfold Hd doS;by_cases h8 : e.kind = 8
    · rw [if_pos h8]; rfl
    · rw [if_neg h8, if_pos (by omega)]; rfl
   rw [hd];refine R3 s2 s1 fun x => ?_;rw [m2, m1];constructor
   · rintro ⟨f, hf, hc, rfl⟩;rcases List.mem_append.1 hf with hf | hf
     · exact ⟨f, hf, hc, key f hf⟩
     · rw [List.mem_singleton] at hf; subst hf; exact absurd hc h12
   · rintro ⟨f, hf, hc, rfl⟩;exact ⟨f, List.mem_append_left _ hf, hc, (key f hf).symm⟩
end Go.Proofs.YthmjebkldgdeiaaGreat.Fw
namespace Go.Proofs.YthmjebkldgdeiaaGreat.Fw
open Go.RowKit Go.Proofs
theorem St.eq {a b : St} (h1 : a.known = b.known) (h2 : a.objs = b.objs) (h3 : a.ents = b.ents) (h4 : a.wards = b.wards) (h5 : a.ret = b.ret) : a = b := by
 cases a; cases b; simp only at h1 h2 h3 h4 h5; subst h1 h2 h3 h4 h5; rfl
theorem A8e (l l' : List Evt) : ∀ m : List Evt, (Ft l m).1.wards = (Ft l' m).1.wards ∧ (Ft l m).1.ret = (Ft l' m).1.ret ∧ (Ft l m).2 = (Ft l' m).2 :=
 Ol ⟨rfl, rfl, rfl⟩ fun m e ⟨h1, h2, h3⟩ => by
  rw [Ht, Ht];unfold Dx;by_cases k12 : e.kind = 1 ∨ e.kind = 2
  · rw [if_pos k12, if_pos k12]; exact ⟨h1, h2, h3⟩
  rw [if_neg k12, if_neg k12];by_cases k8 : e.kind = 8
  · rw [if_pos k8, if_pos k8, h3];split
    · exact ⟨by simp only [H5, h1], h2, by simp only [h3]⟩
    · exact ⟨h1, h2, h3⟩
  rw [if_neg k8, if_neg k8];by_cases k9 : e.kind = 9
  · rw [if_pos k9, if_pos k9]; exact ⟨h1, by simp only [Ob, h2], h3⟩
  rw [if_neg k9, if_neg k9]; exact ⟨h1, h2, h3⟩
theorem Ajw {a b : Vc} {r : Int} {q : Nat} {i : Nat} (h : ∀ i, a i ≤ b i) : A9 a r q i ≤ A9 b r q i := by
 by_cases hr : 1 ≤ r ∧ r ≤ 8
 · rw [Pw hr, Pw hr]; have := h i; split <;> omega
 · unfold A9; rw [if_neg hr, if_neg hr]; exact h i
theorem Alj (L : List Evt) : ∀ (m : List Evt) (i : Nat), (Ft L m).2 i ≤ Bz m i :=
 Ol (fun i => Nat.le_refl _) fun m e ih i => by
  rw [Ht, Ib];unfold Dx;split
  · exact Nat.le_trans (ih i) (Ub i)
  · split
    · split
      · exact Ajw ih
      · exact Nat.le_trans (ih i) (Ub i)
    · split <;> exact Nat.le_trans (ih i) (Ub i)
theorem Asx (s : St) (e : Evt) : (doS s e).known = s.known := by
 unfold doS;split
 · rfl
 · split
   · rfl
   · split
     · rfl
     · split
       · rfl
       · split
         · rfl
         · split <;> rfl
theorem Xd {l : List Evt} {e : Evt} (h : Val l) (ha : Acc (Au l) e) : Au (l ++ [e]) = Hd (Au l) e := by
 obtain ⟨n1, n2, n3⟩ := Aex ha;obtain ⟨_, _, _, _, _, b6, b7⟩ := Cw ha.ck;rw [D9] at n3;have hb : Au (l ++ [e]) = (Dx (l ++ [e]) (Ft (l ++ [e]) l) e).1 := by
  show (Ft (l ++ [e]) (l ++ [e])).1 = _;rw [Ht]
 obtain ⟨w1, w2, w3⟩ := A8e (l ++ [e]) l l;have hen := Ami h ha;rw [← N8 (l ++ [e]), ← N8 l] at hen;refine St.eq ?_ (Ak4 h ha) ?_ ?_ ?_
 · rw [D9, Ib];unfold Hd; rw [Asx];show _ = A9 (Au l).known e.rep e.seq;rw [D9]
 · rw [hen];unfold Hd doS;by_cases h8 : e.kind = 8
   · rw [if_pos h8, if_neg (by omega), if_neg (by omega), if_neg (by omega)]; rfl
   rw [if_neg h8];by_cases h9 : e.kind = 9
   · rw [if_pos h9, if_neg (by omega), if_neg (by omega), if_neg (by omega)]; rfl
   rw [if_neg h9];by_cases h12 : e.kind = 1 ∨ e.kind = 2
   · rw [if_pos h12, if_pos h12]; rfl
   rw [if_neg h12, if_neg h12];obtain ⟨f0, hf0, _, _, ho, _⟩ := Rd h ha (by omega);rw [show E3 (G6 (Au l) e).objs (Ax e) = some (C5 l l f0) from ho];simp only;by_cases h7 : e.kind = 7
   · rw [if_pos h7, if_pos h7]; rfl
   rw [if_neg h7, if_neg h7];by_cases h6 : e.kind = 6
   · rw [if_pos h6, if_pos h6]; rfl
   · rw [if_neg h6, if_neg h6]; rfl
 · rw [hb];unfold Hd doS Dx;by_cases h8 : e.kind = 8
   · have hlt : Hi (Ft (l ++ [e]) l).2 e.rep < e.seq := by
      unfold Hi; rw [if_pos ⟨n1, n2⟩, w3];have := Alj l l (e.rep - 1).toNat;omega
     rw [if_pos h8, if_neg (by omega), if_pos h8, if_pos hlt];simp only [H5, w1]; rfl
   rw [if_neg h8, if_neg h8];by_cases h9 : e.kind = 9
   · rw [if_pos h9, if_neg (by omega), if_pos h9];simp only [Ob, w1]; rfl
   rw [if_neg h9, if_neg h9];by_cases h12 : e.kind = 1 ∨ e.kind = 2
   · rw [if_pos h12, if_pos h12]; simp only [w1]; rfl
   rw [if_neg h12, if_neg h12];obtain ⟨f0, hf0, _, _, ho, _⟩ := Rd h ha (by omega);rw [show E3 (G6 (Au l) e).objs (Ax e) = some (C5 l l f0) from ho];simp only;rw [w1];split
   · rfl
   · split <;> rfl
 · rw [hb];unfold Hd doS Dx;by_cases h8 : e.kind = 8
   · rw [if_pos h8, if_neg (by omega), if_pos h8];split
     · simp only [H5, w2]; rfl
     · simp only [H5, w2]; rfl
   rw [if_neg h8, if_neg h8];by_cases h9 : e.kind = 9
   · rw [if_pos h9, if_neg (by omega), if_pos h9];simp only [Ob, w2]; rfl
   rw [if_neg h9, if_neg h9];by_cases h12 : e.kind = 1 ∨ e.kind = 2
   · rw [if_pos h12, if_pos h12]; simp only [w2]; rfl
   rw [if_neg h12, if_neg h12];obtain ⟨f0, hf0, _, _, ho, _⟩ := Rd h ha (by omega);rw [show E3 (G6 (Au l) e).objs (Ax e) = some (C5 l l f0) from ho];simp only;rw [w2];split
   · rfl
   · split <;> rfl
theorem Avs {l : List Evt} {e : Evt} (h : Val l) (hw : Et (Au l) e = 0) : Aak (Au l) e = Au (l ++ [e]) := by
 unfold Aak; rw [if_pos hw, Xd h (Re.1 hw)]
theorem Zt {l : List Evt} (h : Val l) (hn : l.length ≤ 400) : StIn (Au l) := by
 obtain ⟨s1, l1, m1⟩ := Qf h.nod;have hv : ∀ o ∈ (Au l).objs, ∃ f ∈ l, o.vers = Cx l (Ak f) l := fun o ho => by
  obtain ⟨f, hf, _, rfl⟩ := (m1 o).1 ho;exact ⟨f, hf, Sf l f l⟩
 have hs := (Si (l := l) l h.nod).1;refine ⟨⟨⟨by omega, fun o ho => ?_, ?_⟩, s1, ?_⟩, fun o ho => ?_, fun o ho v hq => ?_, fun o ho v hq => ?_⟩
 · obtain ⟨f, hf, e⟩ := hv o ho;rw [e]; have := (Gg h.nod (Ak f)).2.1; omega
 · rw [N8]; have := S2 l l.length l rfl; omega
 · rw [N8]; exact hs
 · obtain ⟨f, hf, e⟩ := hv o ho;rw [e]; exact (Gg h.nod (Ak f)).1
 · obtain ⟨f, hf, e⟩ := hv o ho;rw [e] at hq;obtain ⟨g, hg, hc, rfl⟩ := ((Gg h.nod (Ak f)).2.2 v).1 hq;exact (Np h g hg hc.1).1
 · obtain ⟨f, hf, e⟩ := hv o ho;rw [e] at hq;obtain ⟨g, hg, hc, rfl⟩ := ((Gg h.nod (Ak f)).2.2 v).1 hq;rw [D9];exact h.has.2 ⟨g, hg, rfl⟩
theorem W7 {e : Evt} (h : Bk e = true) (hw : Oz e = false) : e.base.l = [] ∧ e.data = [] := by
 obtain ⟨b1, b2, b3, b4, b5, b6, b7⟩ := Cw h;have hz := (Nb h).2;have hk : ¬ (e.kind = 3 ∨ e.kind = 4 ∨ e.kind = 5) := of_decide_eq_false hw;have h4 : e.kind = 1 ∨ e.kind = 2 ∨ e.kind = 6 ∨ e.kind = 7 ∨ e.kind = 8 ∨ e.kind = 9 := by omega
 rcases h4 with k | k | k | k | k | k
 · skip
   rw [Aul k] at hz; simp only [Al, Bool.and_eq_true, Bool.or_eq_true, decide_eq_true_eq, Bool.false_eq_true, false_or, true_or, true_and] at hz;exact ⟨List.length_eq_zero_iff.1 (by omega), hz.2.2.2.2.1⟩
 · skip
   rw [Azx k] at hz; simp only [Al, Bool.and_eq_true, Bool.or_eq_true, decide_eq_true_eq, Bool.false_eq_true, false_or, true_or, true_and] at hz;exact ⟨List.length_eq_zero_iff.1 (by omega), hz.2.2.2.2.1⟩
 · skip
   rw [A4x k] at hz; simp only [Al, Bool.and_eq_true, Bool.or_eq_true, decide_eq_true_eq, Bool.false_eq_true, false_or, true_or, true_and] at hz;exact ⟨List.length_eq_zero_iff.1 (by omega), hz.2.2.2.1⟩
 · skip
   rw [A4w k] at hz; simp only [Al, Bool.and_eq_true, Bool.or_eq_true, decide_eq_true_eq, Bool.false_eq_true, false_or, true_or, true_and] at hz;exact ⟨List.length_eq_zero_iff.1 (by omega), hz.2.2.1⟩
 · skip
   rw [Azw k] at hz; simp only [Al, Bool.and_eq_true, Bool.or_eq_true, decide_eq_true_eq, Bool.false_eq_true, false_or, true_or, true_and] at hz;exact ⟨List.length_eq_zero_iff.1 (by omega), hz.2.2.2.2.2.1⟩
 · skip
   rw [Azv k] at hz; simp only [Al, Bool.and_eq_true, Bool.or_eq_true, decide_eq_true_eq, Bool.false_eq_true, false_or, true_or, true_and] at hz;exact ⟨List.length_eq_zero_iff.1 (by omega), hz.2.2.2.2.2.1⟩
def rkL (l : List Evt) (e : Evt) : Nat := l.findIdx fun x => decide (Ak x = Ak e)
theorem Ahw {l : List Evt} (h : Val l) (hn : l.length ≤ 400) : EvsOk l (rkL l) := by
 refine ⟨hn, h.nod, fun e he => ?_, fun e he h5 b t hb e' hf => ?_, fun e he => ?_⟩
 · obtain ⟨a, c, _, _, hv, h3⟩ := h.mem he;refine ⟨hv, ?_⟩;by_cases hw : Oz e = true
   · have := Xb h3.ck hw; omega
   · rw [(W7 h3.ck (by simpa using hw)).2]; simp
 · obtain ⟨a, c, rfl, h1, hv, h3⟩ := h.mem he;by_cases hw : Oz e = true
   · obtain ⟨_, _, g, hg, _, _, hi, _⟩ := Jq h1 h3 hw b (by rw [hb]; simp);have hi' : Ak e' = b := by simpa using List.find?_some hf
     have e1 : rkL (a ++ e :: c) e' < a.length := by
      unfold rkL;rw [List.findIdx_append];have : List.findIdx (fun x => decide (Ak x = Ak e')) a < a.length := List.findIdx_lt_length_of_exists ⟨g, hg, by simp [hi, hi']⟩;rw [if_pos this]; exact this
     have e2 : a.length ≤ rkL (a ++ e :: c) e := by
      unfold rkL;rw [List.findIdx_append];have : ¬ List.findIdx (fun x => decide (Ak x = Ak e)) a < a.length := fun q => by
       have := List.findIdx_getElem (w := q);simp only [decide_eq_true_eq] at this;exact Gm h1 h3 _ (List.getElem_mem _) this
      rw [if_neg this]; omega
     omega
   · rw [(W7 h3.ck (by simpa using hw)).1] at hb; cases hb
 · exact List.findIdx_lt_length_of_exists ⟨e, he, by simp⟩
theorem Ahv {l : List Evt} (h : Val l) : ∀ e ∈ l, 1 ≤ e.rep ∧ e.rep ≤ 8 := fun e he => by
 obtain ⟨a, c, _, _, hv, h3⟩ := h.mem he;exact ⟨(Cw h3.ck).1, (Cw h3.ck).2.1⟩
open Classical in
noncomputable def Rx (out : List Evt) (e : Evt) : List Evt := if Et (Au out) e = 0 then out ++ [e] else out
noncomputable def L9 (l : List Evt) : List Evt := l.foldl Rx []
theorem Vj (l : List Evt) (e : Evt) : L9 (l ++ [e]) = Rx (L9 l) e := by simp [L9]
theorem Acb : ∀ l : List Evt, (∀ e ∈ l, ev e) → Val (L9 l) ∧ (L9 l).length ≤ l.length ∧ ∀ e ∈ L9 l, e ∈ l :=
 Ol (fun _ => ⟨Val.nil, Nat.le_refl _, fun e he => by cases he⟩) fun l e ih hl => by
  obtain ⟨h1, h2, h3⟩ := ih fun f hf => hl f (List.mem_append_left _ hf);rw [Vj];unfold Rx;split
  · rename_i hw;refine ⟨Val.snoc h1 (hl e (by simp)) hw, by simp only [List.length_append, List.length_singleton]; omega, fun f hf => ?_⟩;rcases List.mem_append.1 hf with hf | hf
    · exact List.mem_append_left _ (h3 f hf)
    · exact List.mem_append_right _ hf
  · exact ⟨h1, by simp only [List.length_append, List.length_singleton]; omega, fun f hf => List.mem_append_left _ (h3 f hf)⟩
theorem Acw (c : List PV) : peq c c = true := by simp [peq]
theorem A24 (v : Vc) : Ei [K1.int .u32, .int .u32, .int .u32, .int .u32, .int .u32, .int .u32, .int .u32, .int .u32] (vE v) = True := eq_true rfl
end Go.Proofs.YthmjebkldgdeiaaGreat.Fw
