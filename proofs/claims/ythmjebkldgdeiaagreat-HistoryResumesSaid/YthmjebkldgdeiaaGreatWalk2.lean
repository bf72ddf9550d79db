/- What the functions compute that the laws of this seat reach. -/
import Derived.Test.YthmjebkldgdeiaaGreatWalk1
import Derived.OpenShut
import Derived.ShutString
import Derived.ChangeOld
import Derived.SizedLaws
import Derived.ChangeOld
import Derived.Lib.Bytealg
import Derived.Lib.Overlaps
import Derived.OpenShut
import Derived.ShutString
import Derived.SizedLaws
set_option linter.unusedVariables false
set_option linter.unusedSimpArgs false
set_option linter.unusedSectionVars false
set_option maxRecDepth 100000
namespace Go.Proofs.YthmjebkldgdeiaaGreat.Fw
open Go.RowKit Go.Proofs
structure Obj where
 id : Bq
 dir : Bool
 last : Bq
 name : List UInt8
 seen : Vc
 vers : List Ver
def E9 (f : Bool) (z : Nat) (o : Obj) : List PV := [.i .i64 o.id.1, .i .u32 o.id.2, .b o.dir, .i .i64 o.last.1, .i .u32 o.last.2, .s o.name] ++ vE o.seen ++ [.sl f z (o.vers.map Bc)]
def Ar (o : Obj) : List PV := E9 false 11 o
theorem Eg (f z) (o : Obj) : (E9 f z o).length = 15 := by simp [E9, Bi]
theorem Et (o : Obj) : (Ar o).length = 15 := Eg _ _ o
theorem Aip {f : Bool} {z : Nat} (o : Obj) (h : o.vers = [] ∨ z = 11) : PImpL (E9 f z o) (Ar o) := by
 refine PImpL.app (PImpL.refl _) ⟨He (by simp) (h.imp (fun e => by rw [e]; rfl) id) (.refl _), trivial⟩
theorem Ak6 (f : Bool) (z : Nat) (o : Obj) (K : KK) : LoadK (some (E9 f z o)) 0 2 true K = K (.vec 2 ([.i .i64 o.id.1, .i .u32 o.id.2])) [] := by
 simp only [LoadK, Hr, eq_iff_iff];have e : ((E9 f z o).drop 0).take 2 = [.i .i64 o.id.1, .i .u32 o.id.2] := by
  obtain ⟨i, b, l, n, s, v⟩ := o;simp only [E9, vE, Cu]; rfl
 rw [e];exact ⟨fun h => h.2.2, fun h => ⟨by simp [Eg], .inl trivial, h⟩⟩
theorem Adx (f : Bool) (z : Nat) (o : Obj) (K : KK) : LoadK (some (E9 f z o)) 3 2 true K = K (.vec 2 ([.i .i64 o.last.1, .i .u32 o.last.2])) [] := by
 simp only [LoadK, Hr, eq_iff_iff];have e : ((E9 f z o).drop 3).take 2 = [.i .i64 o.last.1, .i .u32 o.last.2] := by
  obtain ⟨i, b, l, n, s, v⟩ := o;simp only [E9, vE, Cu]; rfl
 rw [e];exact ⟨fun h => h.2.2, fun h => ⟨by simp [Eg], .inl trivial, h⟩⟩
theorem Adv (f : Bool) (z : Nat) (o : Obj) (K : KK) : LoadK (some (E9 f z o)) 6 8 true K = K (.vec 8 (vE o.seen)) [] := by
 simp only [LoadK, Hr, eq_iff_iff];have e : ((E9 f z o).drop 6).take 8 = vE o.seen := by
  obtain ⟨i, b, l, n, s, v⟩ := o;simp only [E9, vE, Cu]; rfl
 rw [e];exact ⟨fun h => h.2.2, fun h => ⟨by simp [Eg], .inl trivial, h⟩⟩
theorem Aga (f : Bool) (z : Nat) (o : Obj) (K : KK) : LoadK (some (E9 f z o)) 2 1 false K = K (.pv (.b o.dir)) [] := by
 simp only [LoadK, Hr, eq_iff_iff];have e : (E9 f z o).getD 2 (.b false) = .b o.dir := by
  obtain ⟨i, b, l, n, s, v⟩ := o;simp only [E9, vE, Cu]; rfl
 rw [e];exact ⟨fun h => h.2.2, fun h => ⟨by simp [Eg], .inr trivial, h⟩⟩
theorem Adw (f : Bool) (z : Nat) (o : Obj) (K : KK) : LoadK (some (E9 f z o)) 5 1 false K = K (.pv (.s o.name)) [] := by
 simp only [LoadK, Hr, eq_iff_iff];have e : (E9 f z o).getD 5 (.b false) = .s o.name := by
  obtain ⟨i, b, l, n, s, v⟩ := o;simp only [E9, vE, Cu]; rfl
 rw [e];exact ⟨fun h => h.2.2, fun h => ⟨by simp [Eg], .inr trivial, h⟩⟩
theorem Adu (f : Bool) (z : Nat) (o : Obj) (K : KK) : LoadK (some (E9 f z o)) 14 1 false K = K (.pv (.sl f z (o.vers.map Bc))) [] := by
 simp only [LoadK, Hr, eq_iff_iff];have e : (E9 f z o).getD 14 (.b false) = .sl f z (o.vers.map Bc) := by
  obtain ⟨i, b, l, n, s, v⟩ := o;simp only [E9, vE, Cu]; rfl
 rw [e];exact ⟨fun h => h.2.2, fun h => ⟨by simp [Eg], .inr trivial, h⟩⟩
theorem Awn (f : Bool) (z : Nat) (o : Obj) (K : KK) : LoadK (some (E9 f z o)) 0 15 true K = K (.vec 15 (E9 f z o)) [] := by
 simp only [LoadK, Hr, eq_iff_iff];have e : ((E9 f z o).drop 0).take 15 = E9 f z o := List.take_of_length_le (by simp [Eg]);rw [e];exact ⟨fun h => h.2.2, fun h => ⟨by simp [Eg], .inl trivial, h⟩⟩
theorem Hf (o : Obj) (K : KK) : LoadK (some (Ar o)) 0 2 true K = K (.vec 2 [.i .i64 o.id.1, .i .u32 o.id.2]) [] := Ak6 _ _ o K
theorem Hz (o : Obj) (K : KK) : LoadK (some (Ar o)) 3 2 true K = K (.vec 2 [.i .i64 o.last.1, .i .u32 o.last.2]) [] := Adx _ _ o K
theorem Lu (o : Obj) (K : KK) : LoadK (some (Ar o)) 6 8 true K = K (.vec 8 (vE o.seen)) [] := Adv _ _ o K
theorem Ev (o : Obj) (K : KK) : LoadK (some (Ar o)) 2 1 false K = K (.pv (.b o.dir)) [] := Aga _ _ o K
theorem Agb (o : Obj) (K : KK) : LoadK (some (Ar o)) 5 1 false K = K (.pv (.s o.name)) [] := Adw _ _ o K
theorem E2 (o : Obj) (K : KK) : LoadK (some (Ar o)) 14 1 false K = K (.pv (.sl false 11 (o.vers.map Bc))) [] := Adu _ _ o K
theorem Fv (o : Obj) (K : KK) : LoadK (some (Ar o)) 0 15 true K = K (.vec 15 (Ar o)) [] := Awn _ _ o K
theorem Vs (o : Obj) (i : Bq) : splice (Ar o) 3 ([.i .i64 i.1, .i .u32 i.2]) = Ar { o with last := i } := by
 obtain ⟨i, b, l, n, s, v⟩ := o;simp only [splice, Ar, E9, vE, Cu]; rfl
theorem Vr (o : Obj) (s : List UInt8) : splice (Ar o) 5 ([.s s]) = Ar { o with name := s } := by
 obtain ⟨i, b, l, n, s, v⟩ := o;simp only [splice, Ar, E9, vE, Cu]; rfl
theorem Vq (o : Obj) (v : Vc) : splice (Ar o) 6 (vE v) = Ar { o with seen := v } := by
 obtain ⟨i, b, l, n, s, v⟩ := o;simp only [splice, Ar, E9, vE, Cu]; rfl
theorem Acm (o : Obj) (f : Bool) (z : Nat) (l : List Ver) : splice (Ar o) 14 ([.sl f z (l.map Bc)]) = E9 f z { o with vers := l } := by
 obtain ⟨i, b, l, n, s, v⟩ := o;simp only [splice, Ar, E9, vE, Cu]; rfl
def obN (o : Obj) : Ent := ⟨o.id, (0, 0), [], (0, 0), fun _ => 0⟩
def Eo (l : List Obj) : Prop := Ds (l.map obN)
def Cc (l : List Obj) (i : Bq) : Nat := F7 (l.map obN) i
def isO (l : List Obj) (i : Bq) : Bool := Qs (l.map obN) i
structure St where
 known : Vc
 objs : List Obj
 ents : List Ent
 wards : Nat → Int
 ret : Nat → Bool
def A3 (s : St) (x y : SV) : List SV := [.vec 8 (vE s.known), x, y, .vec 8 (iE s.wards), .vec 8 (wE s.ret)]
def A5 (s : St) : List SV := A3 s (.pv (.sl false 15 (s.objs.map Ar))) (.pv (.sl false 15 (s.ents.map Bm)))
def st0 : St := ⟨fun _ => 0, [], [], fun _ => 0, fun _ => false⟩
theorem Ug {s : St} {f g : Bool} {y z : Nat} {es fs : List (List PV)} (hy : es = [] ∨ y = 15) (hz : fs = [] ∨ z = 15) (he : PImpR es (s.objs.map Ar)) (hf : PImpR fs (s.ents.map Bm)) : Imp (.agg (A3 s (.pv (.sl f y es)) (.pv (.sl g z fs)))) (.agg (A5 s)) :=
 Ad2 ⟨⟨Imp.refl _, rfl⟩, ⟨Sv (He (by simp) hy he), rfl⟩, ⟨Sv (He (by simp) hz hf), rfl⟩, ⟨Imp.refl _, rfl⟩, ⟨Imp.refl _, rfl⟩, trivial⟩
theorem Acs : Imp (.agg [.vec 8 (List.replicate 8 (.i .u32 0)), .pv (.sl true 0 []), .pv (.sl true 0 []), .vec 8 (List.replicate 8 (.i .i64 0)), .vec 8 (List.replicate 8 (.b false))]) (.agg (A5 st0)) :=
 Ug (s := st0) (.inl rfl) (.inl rfl) trivial trivial
theorem A1g {m n lo hi : Nat} {es fs : List (List PV)} {h} (hm : h m = some (.row 15 fs)) (hn : h n = some (.row 15 es)) (hne : m ≠ n) (hfs : fs ≠ []) (hes : es ≠ []) (hlt : lo < hi) : Zs Tryz.prog 153 [.os m, .ov n 15 lo hi] h (.pv (.b false)) := by
 intro F N ρ s a w hR hh vs hc;simp only [ConcL] at hc;obtain ⟨v, us, rfl, hv, u, us', rfl, hu, rfl⟩ := hc;have hsm := (hh m (by simp [A6, tn])).trans hm;have hsn := (hh n (by simp [A6, tn])).trans hn;refine ⟨.bool false, ?_, E5⟩;rw [run_callFunc_extern (fn := (Tryz.prog.funcs[153]?).getD default) (by kernel_rfl) (by kernel_rfl) (by kernel_rfl) (by kernel_rfl) (e := Extern.SlicesOverlaps.overlaps #[43, 43] #[4]) (by kernel_rfl)];rw [Jp (tS := 43) (e := 116) (by kernel_rfl) (by kernel_rfl) (by decide) hR hsm hsn hne hfs hes hlt hv hu];rfl
set_option maxHeartbeats 4000000 in
theorem We (es : List (List PV)) (cs : List PV) (i : Nat) (hi : i ≤ es.length) (hb : es.length ≤ 1000) (hes : ∀ c ∈ es, c.length = 15) (hcs : cs.length = 15) {h d} (h1 : h 900 = some (.row 15 es)) (h2 : h 901 = some (.row 15 [cs])) : FunOk Tryz.prog 137 [.os 900, .pv (.i .i64 i), .os 901] h d (.os d) [.del 900, .del 901, .new d (.row 15 (es.take i ++ cs :: es.drop i))] := by
 refine Abh Ag fn137 (by simp) rfl fun F => ?_;simp only [C1];by_cases he : i = es.length
 · subst he;have e1 : es.take es.length ++ cs :: es.drop es.length = es ++ [cs] := by simp
   rw [e1];simp (disch := omega) only [ir137, h1, h2, go_sem]
 · have hne : es ≠ [] := by intro e; subst e; simp at hi; exact he (by simpa using hi)
   simp (disch := omega) only [ir137, h1, h2, go_sem];intro c hc;by_cases hcap : c < es.length + 1
   · have hp : ((c : Int) < (es.length : Int) + ((1 : Nat) : Int)) = True := eq_true (by omega);have ek : ((es.length : Int) + ((1 : Nat) : Int) - (i : Int)).toNat = es.length + 1 - i := by omega
     (try simp only [Ca, B9, B0, Bz, Bx, Bw, Bv, Bu]); simp (disch := omega) only [hp, ek, go_sem]
     generalize hT : List.take i es ++ List.replicate (es.length + 1 - i) _ = T;have hTl : T.length = es.length + 1 := by rw [← hT]; simp; omega
     have t1 : T.take i = es.take i := by
      rw [← hT, List.take_append_of_le_length (by simp; omega), List.take_take, Nat.min_self]
     have hi' : (es.take i).length = i := by simp; omega
     have m1 : min 1 (es.length + 1 - i) = 1 := by omega
     have m2 : [cs].take (es.length + 1 - i) = [cs] := List.take_of_length_le (by simp; omega);have hU : (es.take i ++ [cs] ++ T.drop (i + 1)).length = es.length + 1 := by simp [hTl]; omega
     have e1 : ((i : Int) + ((1 : Nat) : Int)).toNat = i + 1 := by omega
     have u1 : (es.take i ++ [cs] ++ T.drop (i + 1)).take (i + 1) = es.take i ++ [cs] := by
      rw [List.take_append_of_le_length (by simp; omega)];exact List.take_of_length_le (by simp; omega)
     have u2 : (es.take es.length).drop i = es.drop i := by rw [List.take_length]
     have u3 : min (es.drop i).length (es.length + 1 - (i + 1)) = es.length - i := by simp
     have u4 : (es.drop i).take (es.length + 1 - (i + 1)) = es.drop i := List.take_of_length_le (by simp);have u5 : (es.take i ++ [cs] ++ T.drop (i + 1)).drop (i + 1 + (es.length - i)) = [] := List.drop_of_length_le (by rw [hU]; omega);have u6 : es.take i ++ cs :: es.drop i = es.take i ++ [cs] ++ es.drop i := by simp
     simp only [hTl, t1, m1, m2, e1, List.length_singleton];simp only [hU, u1, u2, u3, u4, u5, u6, List.append_nil];exact ⟨by omega, by omega, trivial⟩
   · have hp : ((c : Int) < (es.length : Int) + ((1 : Nat) : Int)) = False := eq_false (by omega)
     (try simp only [Ca, B9, B0, Bz, Bx, Bw, Bv, Bu]); simp (disch := omega) only [hp, go_sem]
     intro g hg hgs;have hg1 : g.length = 1 := by omega
     have e1 : ((i : Int) + ((1 : Nat) : Int)).toNat = i + 1 := by omega
     have hE : (es ++ g).length = es.length + 1 := by simp [hg1]
     refine ⟨by omega, ?_⟩;rw [e1];refine Rb (A1g (es := es ++ g) (fs := [cs]) rfl rfl (by decide) (by simp) (by simp [hne]) (by omega)) ?_;have v1 : ((es ++ g).take (es ++ g).length).drop i = (es ++ g).drop i := by rw [List.take_length]
     have v2 : min ((es ++ g).drop i).length ((es ++ g).length - (i + 1)) = es.length - i := by simp [hg1]; omega
     have v3 : ((es ++ g).drop i).take ((es ++ g).length - (i + 1)) = es.drop i := by
      rw [hE, List.drop_append_of_le_length hi, show es.length + 1 - (i + 1) = (es.drop i).length from by simp];exact List.take_left
     have v4 : (es ++ g).drop (i + 1 + (es.length - i)) = [] := List.drop_of_length_le (by omega);have v5 : ((es ++ g).take (i + 1) ++ es.drop i).length = es.length + 1 := by simp [hg1]; omega
     have v6 : ((es ++ g).take (i + 1) ++ es.drop i).take i = es.take i := by
      rw [List.take_append_of_le_length (by simp; omega), List.take_take, Nat.min_eq_left (by omega), List.take_append_of_le_length hi]
     have v7 : ((es ++ g).take (i + 1) ++ es.drop i).drop (i + 1) = es.drop i := by
      rw [List.drop_append_of_le_length (by simp; omega), List.drop_of_length_le (by simp; omega), List.nil_append]
     have m1 : min 1 (es.length + 1 - i) = 1 := by omega
     have m2 : [cs].take (es.length + 1 - i) = [cs] := List.take_of_length_le (by simp; omega);have u6 : es.take i ++ cs :: es.drop i = es.take i ++ [cs] ++ es.drop i := by simp
     simp (disch := omega) only [e1, v1, v2, v3, v4, v5, v6, v7, m1, m2, u6, go_sem]
theorem Apo {m n : Nat} (es : List (List PV)) (cs : List PV) (i : Nat) (hi : i ≤ es.length) (hb : es.length ≤ 1000) (hes : ∀ c ∈ es, c.length = 15) (hcs : cs.length = 15) (hmn : m ≠ n) (hm : m < 900) (hn : n < 900) {h d} (hd : d ≠ m ∧ d ≠ n ∧ d < 900) (h1 : h m = some (.row 15 es)) (h2 : h n = some (.row 15 [cs])) : FunOk Tryz.prog 137 [.os m, .pv (.i .i64 i), .os n] h d (.os d) [.del m, .del n, .new d (.row 15 (es.take i ++ cs :: es.drop i))] := by
 have hπ := Ahy (a := 900) (m := m) (b := 901) (n := n) (by omega) (by omega) (by omega) hmn;have e1 : Z1 900 m 901 n 900 = m := by unfold Z1; simp
 have e2 : Z1 900 m 901 n 901 = n := by unfold Z1; repeat' split <;> (try omega)
 have e3 : Z1 900 m 901 n d = d := by unfold Z1; repeat' split <;> (try omega)
 have := (We es cs i hi hb hes hcs (h := fun k => (h (Z1 900 m 901 n k))) (d := d) (by rw [← h1, e1]) (by rw [← h2, e2])).rn (π := Z1 900 m 901 n) hπ (d' := d);simp only [SV.rnL, SV.rn, HU.rn, Blk.rn, List.map_cons, List.map_nil, e1, e2, e3] at this;refine this.at fun k hk => ?_;simp only [A6, tn, List.append_nil, List.nil_append, List.mem_append, List.mem_singleton] at hk;simp only [hπ];rcases hk with rfl | rfl
 · rw [h1]; rfl
 · rw [h2]; rfl
theorem Ap6 (x : Obj) (b : Bq) {h d} : FunOk Tryz.prog 152 [.vec 15 (Ar x), .vec 2 [.i .i64 b.1, .i .u32 b.2]] h d (.pv (.i .i64 (I2 x.id b))) [] := by
 refine Ap Ag fn152 (by simp) rfl rfl fun F => ?_;simp (disch := omega) only [ir152, Hf, go_sem];refine Aa (Mw _ _ _ _) ?_;by_cases h1 : Cm x.id.1 x.id.2 b.1 b.2 = true
 · have e : I2 x.id b = -1 := if_pos h1;simp (disch := omega) only [h1, e, go_sem]
 · have h1' : Cm x.id.1 x.id.2 b.1 b.2 = false := by simpa using h1
   simp (disch := omega) only [h1', Hf, go_sem];refine Aa (Mw _ _ _ _) ?_;by_cases h2 : Cm b.1 b.2 x.id.1 x.id.2 = true
   · have e : I2 x.id b = 1 := by unfold I2; rw [if_neg h1, if_pos h2]
     simp (disch := omega) only [h2, e, go_sem]
   · have h2' : Cm b.1 b.2 x.id.1 x.id.2 = false := by simpa using h2
     have e : I2 x.id b = 0 := by unfold I2; rw [if_neg h1, if_neg h2]
     simp (disch := omega) only [h2', e, go_sem]
theorem Ais {l : List Obj} {j : Nat} {y : Ent} (h : (l.map obN)[j]? = some y) : ∃ o, l[j]? = some o ∧ y.id = o.id := by
 rw [List.getElem?_map] at h;obtain ⟨o, h1, h2⟩ := Option.map_eq_some_iff.1 h;exact ⟨o, h1, by rw [← h2]; rfl⟩
theorem Ux {l : List Obj} {j : Nat} {o : Obj} (h : l[j]? = some o) : (l.map obN)[j]? = some (obN o) := by rw [List.getElem?_map, h]; rfl
theorem Ku {l : List Obj} (hs : Eo l) {j m : Nat} {x v : Obj} (hj : l[j]? = some x) (hm : l[m]? = some v) (h : j < m) : H8 x.id v.id = true := Vv (l := l.map obN) hs (Ux hj) (Ux hm) h
theorem Avm {l : List Obj} {i : Bq} {k : Nat} (hk : k ≤ l.length) (h1 : ∀ j x, j < k → l[j]? = some x → H8 x.id i = true) (h2 : ∀ x, l[k]? = some x → ¬ H8 x.id i = true) : Cc l i = k :=
 Aic (l := l.map obN) (by simpa using hk) (fun j x hj hx => by
  obtain ⟨o, h3, h4⟩ := Ais hx;rw [h4]; exact h1 j o hj h3) fun x hx => by
  obtain ⟨o, h3, h4⟩ := Ais hx;rw [h4]; exact h2 o h3
theorem Lq (l : List Obj) (i : Bq) : Cc l i ≤ l.length := by have := Aal (l.map obN) i; simpa [Cc] using this
theorem Qr {l : List Obj} (hs : Eo l) (i : Bq) : isO l i = match l[Cc l i]? with | some x => decide (x.id = i) | none => false := by
 have h := Ql (l := l.map obN) hs i;unfold isO Qs;rw [h];show _ = match l[Cc l i]? with | some x => decide (x.id = i) | none => false
 unfold Cc;cases hx : l[F7 (l.map obN) i]? with
 | none => rw [List.getElem?_map, hx]; rfl
 | some x =>
   rw [List.getElem?_map, hx];show (if x.id = i then some (obN x) else none).isSome = decide (x.id = i);by_cases e : x.id = i <;> simp [e]
theorem A2o {l : List Obj} (hs : Eo l) {i : Bq} (h : isO l i = true) : ∃ o, l[Cc l i]? = some o ∧ o.id = i := by
 rw [Qr hs] at h;cases hx : l[Cc l i]? with
 | none => rw [hx] at h; cases h
 | some x => rw [hx] at h; exact ⟨x, rfl, by simpa using h⟩
def Aad (f : Bool) (l : List Obj) (i : Bq) (p : Nat × Nat) : FS := mk [(9, .pv (.i .i64 p.1)), (10, .pv (.i .i64 p.2)), (8, .pv (.i .i64 l.length)), (0, .pv (.sl f 15 (l.map Ar))), (2, .fn (.func 152) []), (4, .p 4 0)] [(4, some (.var (.vec 2 [.i .i64 i.1, .i .u32 i.2])))]
set_option maxHeartbeats 1000000 in
theorem A1p {x : SV} {f : Bool} {l : List Obj} (i : Bq) {h d} (hx : Cn h [x, .vec 2 [.i .i64 i.1, .i .u32 i.2], .fn (.func 152) []] = [.pv (.sl f 15 (l.map Ar)), .vec 2 [.i .i64 i.1, .i .u32 i.2], .fn (.func 152) []]) (hl : Be [x, .vec 2 [.i .i64 i.1, .i .u32 i.2], .fn (.func 152) []] = true) (hs : Eo l) (hn : l.length ≤ 1000) :
 FunOk Tryz.prog 151 [x, .vec 2 [.i .i64 i.1, .i .u32 i.2], .fn (.func 152) []] h d (.tup [.pv (.i .i64 (Cc l i)), .pv (.b (isO l i))]) [] := by
 refine Ci Ag fn151 (by simp) hl rfl fun F => ?_;rw [hx];simp (disch := omega) only [ir151, List.length_map, go_sem];refine A1 Ag (Aad f l i) (fun p => p.1 ≤ p.2 ∧ p.2 ≤ l.length ∧ (∀ j x, j < p.1 → l[j]? = some x → H8 x.id i = true) ∧ ∀ j x, p.2 ≤ j → l[j]? = some x → ¬ H8 x.id i = true) (fun p => p.2 - p.1) (0, l.length) ⟨by simp, by simp, by simp, fun j x hj hx => by simp only at hj; rw [List.getElem?_eq_none hj] at hx; cases hx⟩ (Ak ?_ ?_) fun p hp => ?_
 · (try simp only [Ca, B9, B0, Bz, Bx, Bw, Bv, Bu]); simp (disch := omega) only [go_sem]
 · simp (disch := omega) only [go_sem]
 obtain ⟨a, b⟩ := p;obtain ⟨p1, p2, p3, p4⟩ := hp;simp only at p1 p2 p3 p4;by_cases hlt : a < b
 · have hm : (a + b) / 2 < l.length := by omega
   have hx : l[(a + b) / 2]? = some l[(a + b) / 2] := List.getElem?_eq_getElem hm;have he : (l.map Ar)[(a + b) / 2]? = some (Ar l[(a + b) / 2]) := by rw [List.getElem?_map, hx]; rfl
   have e1 : ((a : Int) + (b : Int)).fdiv (2 ^ min (Int.toNat 1) 64) = (((a + b) / 2 : Nat) : Int) := by
    rw [show (2 : Int) ^ min (Int.toNat 1) 64 = 2 from rfl, Int.fdiv_eq_ediv_of_nonneg _ (by omega)]; omega
   have hm1 : a ≤ (a + b) / 2 := by omega
   have hm2 : (a + b) / 2 < b := by omega
   generalize l[(a + b) / 2] = v at *;generalize (a + b) / 2 = m at *;simp (disch := omega) only [Aad, List.length_map, e1, he, Fv, go_sem];refine Aa (Ap6 v i) ?_;by_cases hc : H8 v.id i = true
   · have e2 : (I2 v.id i < 0) = True := by rw [U2]; exact eq_true hc
     simp (disch := omega) only [e2, go_sem];refine Ad (x := (a, b)) (m + 1, b) _ _ rfl ⟨by show m + 1 ≤ b; omega, p2, fun j x hj hx' => ?_, p4⟩ (by show b - (m + 1) < b - a; omega) ?_ ?_
     · by_cases e : j = m
       · subst e; rw [hx] at hx'; cases hx'; exact hc
       · exact G6 (Ku hs hx' hx (by simp only at hj; omega)) hc
     · (try simp only [Ca, B9, B0, Bz, Bx, Bw, Bv, Bu]); simp (disch := omega) only [go_sem]
     · simp (disch := omega) only [go_sem]
   · have e2 : (I2 v.id i < 0) = False := by rw [U2]; exact eq_false hc
     simp (disch := omega) only [e2, go_sem];refine Ad (x := (a, b)) (a, m) _ _ rfl ⟨by show a ≤ m; omega, by show m ≤ _; omega, p3, fun j x hj hx' => ?_⟩ (by show m - a < b - a; omega) ?_ ?_
     · by_cases e : j = m
       · subst e; rw [hx] at hx'; cases hx'; exact hc
       · exact fun q => hc (G6 (Ku hs hx hx' (by simp only at hj; omega)) q)
     · (try simp only [Ca, B9, B0, Bz, Bx, Bw, Bv, Bu]); simp (disch := omega) only [go_sem]
     · simp (disch := omega) only [go_sem]
 · obtain rfl : a = b := by omega
   have hpos : Cc l i = a := Avm p2 p3 fun x hx' => p4 a x (Nat.le_refl a) hx';have hk := Qr hs i;rw [hpos] at hk;by_cases hal : a < l.length
   · have hx' : l[a]? = some l[a] := List.getElem?_eq_getElem hal;have he : (l.map Ar)[a]? = some (Ar l[a]) := by rw [List.getElem?_map, hx']; rfl
     rw [hx'] at hk;simp only at hk;generalize l[a] = v at *;simp (disch := omega) only [Aad, hal, he, Fv, List.length_map, go_sem];refine Aa (Ap6 v i) ?_;by_cases hv : v.id = i
     · have e2 : (I2 v.id i = 0) = True := by rw [U3]; exact eq_true hv
       have e3 : isO l i = true := by rw [hk]; simp [hv]
       simp (disch := omega) only [e2, e3, hpos, go_sem]
     · have e2 : (I2 v.id i = 0) = False := by rw [U3]; exact eq_false hv
       have e3 : isO l i = false := by rw [hk]; simp [hv]
       simp (disch := omega) only [e2, e3, hpos, go_sem]
   · rw [List.getElem?_eq_none (by omega)] at hk;simp (disch := omega) only [Aad, hal, hpos, hk, go_sem]
theorem My {x : SV} {f : Bool} {l : List Obj} (i : Bq) {h d} (hx : Cn h [x, .vec 2 [.i .i64 i.1, .i .u32 i.2]] = [.pv (.sl f 15 (l.map Ar)), .vec 2 [.i .i64 i.1, .i .u32 i.2]]) (hl : Be [x, .vec 2 [.i .i64 i.1, .i .u32 i.2]] = true) (hs : Eo l) (hn : l.length ≤ 1000) :
 FunOk Tryz.prog 136 [x, .vec 2 [.i .i64 i.1, .i .u32 i.2]] h d (.tup [.pv (.i .i64 (Cc l i)), .pv (.b (isO l i))]) [] := by
 refine Ci Ag fn136 (by simp) hl rfl fun F => ?_;rw [hx];simp (disch := omega) only [ir136, go_sem];refine Aa (A1p (l := l) i rfl rfl hs hn) ?_;simp (disch := omega) only [go_sem]
def Kp (l : List Obj) (i : Bq) : Int := if i = (0, 0) then 0 else match l[Cc l i]? with
 | some o => if o.id = i then (if o.dir = true then 0 else 22) else 2
 | none => 2
theorem A3g {l : List Obj} (hs : Eo l) {i : Bq} (h : i ≠ (0, 0)) (k : isO l i = false) : Kp l i = 2 := by
 unfold Kp; rw [if_neg h];rw [Qr hs] at k;cases hx : l[Cc l i]? with
 | none => rfl
 | some x => rw [hx] at k; simp only at k ⊢; rw [if_neg (by simpa using k)]
theorem A3f {l : List Obj} {i : Bq} {o : Obj} (h : i ≠ (0, 0)) (k : l[Cc l i]? = some o) (ho : o.id = i) : Kp l i = if o.dir = true then 0 else 22 := by
 unfold Kp; rw [if_neg h, k]; simp only; rw [if_pos ho]
theorem Ab1 {i : Bq} (h : i = (0, 0)) : i.1 = 0 ∧ i.2 = 0 := by subst h; exact ⟨rfl, rfl⟩
theorem Apr {s : St} (i : Bq) {h d} (hs : Eo s.objs) (hn : s.objs.length ≤ 1000) : FunOk Tryz.prog 135 [.agg (A5 s), .vec 2 [.i .i64 i.1, .i .u32 i.2]] h d (.pv (.i .i64 (Kp s.objs i))) [] := by
 refine Ap Ag fn135 (by simp) rfl rfl fun F => ?_;by_cases h0 : i = (0, 0)
 · have e : Kp s.objs i = 0 := if_pos h0;have hz : Cj i.1 i.2 = true := decide_eq_true (Ab1 h0);simp (disch := omega) only [ir135, A5, A3, Ae, Av, Au, hz, e, go_sem]
 · have hz : Cj i.1 i.2 = false := decide_eq_false fun e => h0 (Prod.ext e.1 e.2);simp (disch := omega) only [ir135, A5, A3, Ae, Av, Au, hz, go_sem];refine Aa (My (l := s.objs) i rfl rfl hs hn) ?_;by_cases hi : isO s.objs i = true
   · obtain ⟨o, h1, h2⟩ := A2o hs hi;have e := A3f h0 h1 h2;have hlt := (List.getElem?_eq_some_iff.1 h1).1;have he : (s.objs.map Ar)[Cc s.objs i]? = some (Ar o) := by rw [List.getElem?_map, h1]; rfl
     by_cases hd : o.dir = true
     · rw [if_pos hd] at e;simp (disch := omega) only [hi, List.length_map, he, Ev, hd, e, go_sem]
     · rw [if_neg hd] at e;have hd' : o.dir = false := by simpa using hd
       simp (disch := omega) only [hi, List.length_map, he, Ev, hd', e, go_sem]
   · have hi' : isO s.objs i = false := by simpa using hi
     have e := A3g hs h0 hi';simp (disch := omega) only [hi', e, go_sem]
theorem Ar0 {P : Program} (hm : P.follows .mixedOrders = true) {f N' : Nat} {rs : List Rv} {c : C} (hf : A7 P f = some (N', rs, c)) {args : List SV} {h : Nat → Option Blk} {d : Nat} {sz : Nat} {es : List (List PV)} {X : Nat → SV} (hlen : args.length ≤ N')
 (hargs : SV.closedL args = true) (hX : ∀ (V V' : View) (ρ ρ' : Nat → Value) (n d : Nat) (v : Value), View.le V V' → ρ' d = ρ n → Conc V ρ (X n) v → Conc V' ρ' (X d) v)
 (hrun : ∀ F, sx (Q4 P F N') c (Ol rs fun y g => ∃ n, y = X n ∧ g n = some (.row sz es)) (mk (C9 0 args) [])) :
 FunOk P f args h d (X d) [.new d (.row sz es)] := by
 obtain ⟨h1, h2, h3⟩ := Ch hargs;refine ⟨Cl hf, fun F N ρ s a w hR hh vs hc => ?_⟩;refine Calls.mono (Dd hm hf (h := h) hlen h2 Jo (by rw [h3]; exact hrun) hR hh hc) fun e w' he => ?_;obtain ⟨v, rfl, hg, N'', ρ', s', a', y, hR', hy, n, rfl, hn⟩ := he;rw [h1, Dk] at hR' hy;obtain ⟨base, cap, g1, g2, g3, g4, g5⟩ := hR'.own n _ hn;have hown : ∀ b, Cq (ρ' n) = some b → w.heap.size ≤ b ∧ b < w'.heap.size := fun b hb => by
  have ho : Cp ρ' s'.h b := ⟨n, _, hn, hb⟩
  exact ⟨(hR'.may b ho).resolve_right id, hR'.lt ho⟩
 have hnew := hR.adopt hg d (.row sz es) (ρ' n) hown fun _ => by
  refine ⟨base, cap, by rw [Ay]; exact g1, g2, g3, g4, fun hcap => ?_⟩;obtain ⟨b, vs', ty, fr, k1, k2, k3, k4, k5, k6⟩ := g5 hcap;refine ⟨b, vs', ty, fr, k1, k2, k3, k4, k5, fun i c hi => (k6 i c hi).mono (Bl fun b' c' ho hc' => ⟨fun hb' => ?_, hc'⟩)⟩;rcases hb' with ⟨m, z, hm1, hm2⟩ | hb'
  · by_cases hmd : m = d
    · subst hmd;rw [Ay] at hm2;exact ho (.inl ⟨n, _, hn, hm2⟩)
    · rw [Br hmd] at hm2;simp only [FS.hup, FS.seth, FS.kill, hmd, if_false] at hm1;obtain ⟨z', hz', _⟩ := Option.map_eq_some_iff.1 hm1;exact ho (.inr (.inl ⟨m, z', hz', hm2⟩))
  · exact ho (.inr (.inr hb'))
 refine ⟨v, _, rfl, hnew.1, hX _ _ _ _ _ _ _ (Bl fun b' c' ho hc' => ⟨fun hb' => ?_, hc'⟩) Ay hy⟩;rcases hb' with ⟨m, z, hm1, hm2⟩ | hb'
 · by_cases hmd : m = d
   · subst hmd;rw [Ay] at hm2;exact ho (.inl ⟨n, _, hn, hm2⟩)
   · rw [Br hmd] at hm2;simp only [FS.hup, FS.seth, FS.kill, hmd, if_false] at hm1;obtain ⟨z', hz', _⟩ := Option.map_eq_some_iff.1 hm1;exact ho (.inr (.inl ⟨m, z', hz', hm2⟩))
 · exact ho (.inr (.inr hb'))
theorem Ako {f : Bool} {z : Nat} {es : List (List PV)} {h d} (hz : es = [] ∨ z = 15) (hb : es.length ≤ 1000) : FunOk Tryz.prog 94 [.pv (.sl f z es)] h d (.pv (.sl false 15 es)) [] := by
 refine Qz Ag fn94 (by simp) rfl fun F => ?_;simp (disch := omega) only [ir94, go_sem];intro b hb';cases b
 · simp (disch := omega) only [go_sem]
 · have he : es = [] := by
    cases es with
    | nil => rfl
    | cons c l => exact absurd (hb' (by simp)) (by simp)
   subst he
   (try simp only [Ca, B9, B0, Bz, Bx, Bw, Bv, Bu]); simp (disch := omega) only [go_sem]
   decide
theorem Akn {f : Bool} {z : Nat} {es : List (List PV)} {h d} (hz : es = [] ∨ z = 11) (hb : es.length ≤ 1000) : FunOk Tryz.prog 95 [.pv (.sl f z es)] h d (.pv (.sl false 11 es)) [] := by
 refine Qz Ag fn95 (by simp) rfl fun F => ?_;simp (disch := omega) only [ir95, go_sem];intro b hb';cases b
 · simp (disch := omega) only [go_sem]
 · have he : es = [] := by
    cases es with
    | nil => rfl
    | cons c l => exact absurd (hb' (by simp)) (by simp)
   subst he
   (try simp only [Ca, B9, B0, Bz, Bx, Bw, Bv, Bu]); simp (disch := omega) only [go_sem]
   decide
theorem Aeh {V V' : View} {ρ ρ' : Nat → Value} {n d : Nat} {a b : List SV} {v : Value} (hV : V.le V') (he : ρ' d = ρ n) (ha : SV.closedL a = true) (hb : SV.closedL b = true) (h : Conc V ρ (.agg (a ++ .os n :: b)) v) : Conc V' ρ' (.agg (a ++ .os d :: b)) v := by
 simp only [Conc] at h ⊢;obtain ⟨vs, rfl, hc⟩ := h;obtain ⟨va, vb, rfl, h1, h2⟩ := Il hc;simp only [Cells] at h2;obtain ⟨u, ub, rfl, h3, h4, h5, h6⟩ := h2;refine ⟨_, rfl, Jt (Dj hV ha h1) ?_⟩;simp only [Cells];refine ⟨u, ub, rfl, ?_, h4, h5, Dj hV hb h6⟩;simp only [Conc] at h3 ⊢;rw [he]; exact h3
def cpS (k : Nat) : SV := if k = 0 then .pv (.sl true 0 []) else .os 40
def cpK (l : List Obj) (k : Nat) : Option Blk := if k = 0 then none else some (.row 15 ((l.take k).map Ar))
theorem Ast : cpS 0 = .pv (.sl true 0 []) := rfl
theorem Aje {k : Nat} (h : k ≠ 0) : cpS k = .os 40 := if_neg h
theorem Asu (l : List Obj) : cpK l 0 = none := rfl
theorem Ajf {l : List Obj} {k : Nat} (h : k ≠ 0) : cpK l k = some (.row 15 ((l.take k).map Ar)) := if_neg h
def Cd : SV := .agg [.vec 8 (List.replicate 8 (.i .u32 0)), .pv (.sl true 0 []), .pv (.sl true 0 []), .vec 8 (List.replicate 8 (.i .i64 0)), .vec 8 (List.replicate 8 (.b false))]
def Fc (s : St) : SV := .pv (.sl false 15 (s.ents.map Bm))
def Au0 (s : St) (k : Nat) : FS := mk [(15, .pv (.i .i64 k)), (14, .pv (.i .i64 s.objs.length)), (13, .pv (.sl false 15 (s.objs.map Ar))), (3, .p 3 0), (2, .p 2 0)] [(3, some (.var (.agg (A3 s (cpS k) (Fc s))))), (2, some (.var Cd)), (40, cpK s.objs k)]
theorem C0 {α : Type} {l : List α} {k : Nat} {y : α} (h : l[k]? = some y) : l.take (k + 1) = l.take k ++ [y] := by
 rw [List.take_add_one, h]; rfl
theorem Yq (l : List Obj) : ∀ c ∈ l.map Ar, c.length = 15 := fun c hc => by
 obtain ⟨o, _, rfl⟩ := List.mem_map.1 hc;exact Et o
set_option maxHeartbeats 4000000 in
theorem S3 {s : St} (hn : s.objs.length ≤ 1000) (hv : ∀ o ∈ s.objs, o.vers.length ≤ 1000) (he : s.ents.length ≤ 1000) {F : Fr} {R : SV → (Nat → Option Blk) → Prop}
 (h1 : s.objs = [] → ∀ h, R (.agg (A3 s (.pv (.sl true 0 [])) (Fc s))) h) (h2 : s.objs ≠ [] → ∀ h, h 40 = some (.row 15 (s.objs.map Ar)) → R (.agg (A3 s (.os 40) (Fc s))) h) :
 sx (Q4 Tryz.prog F 31) ir53 (Ol [.c 2 26 true] R) (mk (C9 0 [.agg (A5 s)]) []) := by
 simp (disch := omega) only [ir53, A5, A3, go_sem];refine Aa (Ako (es := s.ents.map Bm) (.inr rfl) (by simpa using he)) ?_;simp (disch := omega) only [List.length_map, go_sem];refine A1 Ag (Au0 s) (fun k => k ≤ s.objs.length) (fun k => s.objs.length - k) 0 (by simp) (Ak ?_ ?_) fun k hk => ?_
 · simp (disch := omega) only [go_sem]
 · simp (disch := omega) only [Ast, Asu, A3, Fc, Cd, go_sem]
 by_cases hlt : k < s.objs.length
 · have hx : s.objs[k]? = some s.objs[k] := List.getElem?_eq_getElem hlt;have hel : (s.objs.map Ar)[k]? = some (Ar s.objs[k]) := by rw [List.getElem?_map, hx]; rfl
   have ht := C0 hx;have hvk := hv _ (List.getElem_mem hlt);generalize s.objs[k] = o at *;have hsp : splice (Ar o) 14 [.sl false 11 (o.vers.map Bc)] = Ar o := Acm o false 11 o.vers;have hol := Et o;have htm : (s.objs.take (k + 1)).map Ar = (s.objs.take k).map Ar ++ [Ar o] := by rw [ht]; simp
   have hkl : ((s.objs.take k).map Ar).length = k := by simp; omega
   simp (disch := omega) only [Au0, A3, List.length_map, hel, Fv, go_sem];simp (disch := omega) only [E2, go_sem];refine Aa (Akn (es := o.vers.map Bc) (.inr rfl) (by simpa using hvk)) ?_;by_cases h0 : k = 0
   · subst h0;simp (disch := omega) only [hsp, Ast, Asu, Fv, hol, A3, Fc, Cd, go_sem];have hS := Aje (k := 1) (by omega);have hK := Ajf (l := s.objs) (k := 1) (by omega);refine ⟨fun _ => trivial, (1 : Nat), by omega, by show _ - 1 < _ - 0; omega, D2 27 40 (by decide) rfl (Ak ?_ ?_)⟩
     · simp (disch := omega) only [go_sem]
     · simp (disch := omega) only [hS, hK, htm, A3, Fc, Cd, go_sem];rfl
   · have hS := Aje h0;have hK := Ajf (l := s.objs) h0;simp (disch := omega) only [hsp, hS, hK, Fv, hol, A3, Fc, Cd, hkl, go_sem];have hS' := Aje (k := k + 1) (by omega);have hK' := Ajf (l := s.objs) (k := k + 1) (by omega);refine ⟨k + 1, by omega, by omega, D2 27 40 (by decide) rfl (Ak ?_ ?_)⟩
     · simp (disch := omega) only [go_sem]
     · simp (disch := omega) only [hS', hK', htm, A3, Fc, Cd, go_sem]
 · obtain rfl : k = s.objs.length := by omega
   by_cases h0 : s.objs = []
   · have := h1 h0;have e : s.objs.length = 0 := by rw [h0]; rfl
     simp (disch := omega) only [Au0, A3, e, Ast, Asu, Fc, Cd, go_sem];exact this _
   · have e : s.objs.length ≠ 0 := fun e => h0 (List.eq_nil_of_length_eq_zero e);have hS := Aje e;have hK := Ajf (l := s.objs) e;simp (disch := omega) only [Au0, A3, hS, hK, Fc, Cd, go_sem];exact h2 h0 _ (by simp [mk, lk])
theorem Alx {P : Program} (hm : P.follows .mixedOrders = true) {f N' : Nat} {rs : List Rv} {c : C} (hf : A7 P f = some (N', rs, c)) {args : List SV} {h : Nat → Option Blk} {d : Nat} {sz : Nat} {es : List (List PV)} {l r : List SV} (hlen : args.length ≤ N')
 (hargs : SV.closedL args = true) (hl : SV.closedL l = true) (hr : SV.closedL r = true) (hrun : ∀ F, sx (Q4 P F N') c (Ol rs fun y g => (∃ n, y = .agg (l ++ .os n :: r) ∧ g n = some (.row sz es)) ∨ ∃ z, y = .agg (l ++ .pv (.sl true z []) :: r) ∧ es = []) (mk (C9 0 args) [])) :
 FunOk P f args h d (.agg (l ++ .pv (.sl false sz es) :: r)) [] := by
 obtain ⟨h1, h2, h3⟩ := Ch hargs;refine ⟨Cl hf, fun F N ρ s a w hR hh vs hc => ?_⟩;refine Calls.mono (Dd hm hf (h := h) hlen h2 Jo (by rw [h3]; exact hrun) hR hh hc) fun e w' he => ?_;obtain ⟨v, rfl, hg, N'', ρ', s', a', y, hR', hy, hyy⟩ := he;rw [h1, Dk] at hR' hy;refine ⟨v, ρ, rfl, hR.grew hg, ?_⟩;have key : ∀ (x : SV), x.width = 1 → y = .agg (l ++ x :: r) → (∀ u, Conc (vw ⟨w, fun _ => False, F.out ρ s.h, fun _ => undef, []⟩ w' ρ' s') ρ' x u → PConc (vw F w' ρ s) (.sl false sz es) u) → Conc (vw F w' ρ (s.hup [])) ρ (.agg (l ++ .pv (.sl false sz es) :: r)) v := fun x hw e k => by
  subst e;simp only [Conc] at hy ⊢;obtain ⟨vs, rfl, hc⟩ := hy;obtain ⟨va, vb, rfl, g1, g2⟩ := Il hc;simp only [Cells] at g2;obtain ⟨u, ub, rfl, g3, g4, g5, g6⟩ := g2;refine ⟨_, rfl, Jt (Dj (Em hR') hl g1) ?_⟩;simp only [Cells];exact ⟨u, ub, rfl, by simp only [Conc]; exact k u g3, g4.trans hw, g5, Dj (Em hR') hr g6⟩
 rcases hyy with ⟨n, e, hn⟩ | ⟨z, e, rfl⟩
 · refine key _ rfl e fun u hu => ?_;simp only [Conc] at hu;rw [hu.1]; exact V4 hR' hn
 · refine key _ rfl e fun u hu => ?_;simp only [Conc] at hu;exact (He (by simp) (.inl rfl) (.refl [])) _ _ (hu.mono (Em hR'))
structure Fine (s : St) : Prop where
 on : s.objs.length ≤ 500
 ov : ∀ o ∈ s.objs, o.vers.length ≤ 500
 en : s.ents.length ≤ 500
theorem Ap2 {s : St} (hs : Fine s) {h d} : FunOk Tryz.prog 53 [.agg (A5 s)] h d (.agg (A3 s (.os d) (Fc s))) [.new d (.row 15 (s.objs.map Ar))] := by
 have a1 : s.objs.length ≤ 1000 := Nat.le_trans hs.on (by omega);have a2 : ∀ o ∈ s.objs, o.vers.length ≤ 1000 := fun o ho => Nat.le_trans (hs.ov o ho) (by omega);have a3 : s.ents.length ≤ 1000 := Nat.le_trans hs.en (by omega);by_cases h0 : s.objs = []
 · rw [h0];refine FunOk.nilos (a := [.vec 8 (vE s.known)]) (b := [Fc s, .vec 8 (iE s.wards), .vec 8 (wE s.ret)]) (z := 0) (sz := 15) ?_ rfl rfl (by omega);refine Ap Ag fn53 (by simp) rfl rfl fun F => ?_;exact S3 a1 a2 a3 (fun _ _ => rfl) fun e => absurd h0 e
 · refine Ar0 (X := fun n => .agg (A3 s (.os n) (Fc s))) Ag fn53 (by simp) rfl (fun V V' ρ ρ' n d v hV he hc => Aeh (a := [.vec 8 (vE s.known)]) (b := [Fc s, .vec 8 (iE s.wards), .vec 8 (wE s.ret)]) hV he rfl rfl hc) fun F => ?_;exact S3 a1 a2 a3 (fun e => absurd e h0) fun _ h hh => ⟨40, rfl, hh⟩
theorem Sc {s : St} (hs : Fine s) {h d} : FunOk Tryz.prog 53 [.agg (A5 s)] h d (.agg (A5 s)) [] := by
 have a1 : s.objs.length ≤ 1000 := Nat.le_trans hs.on (by omega);have a2 : ∀ o ∈ s.objs, o.vers.length ≤ 1000 := fun o ho => Nat.le_trans (hs.ov o ho) (by omega);have a3 : s.ents.length ≤ 1000 := Nat.le_trans hs.en (by omega);refine Alx (l := [.vec 8 (vE s.known)]) (r := [Fc s, .vec 8 (iE s.wards), .vec 8 (wE s.ret)]) Ag fn53 (by simp) rfl rfl rfl fun F => ?_;exact S3 a1 a2 a3 (fun e h => .inr ⟨0, rfl, by rw [e]; rfl⟩) fun _ h hh => .inl ⟨40, rfl, hh⟩
def Ajk : List SV → List PV → Prop
 | [], cs => cs = []
 | .pv x :: l, cs => ∃ r, cs = x :: r ∧ Ajk l r
 | .vec n c :: l, cs => c.length = n ∧ ∃ r, cs = c ++ r ∧ Ajk l r
 | _ :: _, _ => False
theorem S4 {V : View} {ρ : Nat → Value} : ∀ {l : List SV} {cs : List PV} {vs : List Value}, Ajk l cs → PCells V cs vs → Cells V ρ l vs
 | [], cs, vs, h, hp => by
   have h : cs = [] := h;subst h;simp only [Cells];exact List.eq_nil_of_length_eq_zero hp.1.symm
 | .pv x :: l, cs, vs, h, hp => by
   obtain ⟨r, rfl, h⟩ := h;simp only [Cells];obtain ⟨v, hv, hx⟩ := hp.2 0 x rfl;cases vs with
   | nil => cases hv
   | cons u us =>
     have : u = v := by simpa using hv
     subst this;have hf : Ax u = [u] := by have := hx.one; cases u <;> simp_all [Ax, Bb]
     refine ⟨u, us, by rw [hf]; rfl, by simp only [Conc]; exact hx, by rw [hf]; rfl, fun c hc => ?_, S4 h ⟨by simpa using hp.1, fun j y hy => by simpa using hp.2 (j + 1) y (by simpa using hy)⟩⟩;rw [hf] at hc;rw [List.mem_singleton.1 hc];exact hx.one
 | .vec n c :: l, cs, vs, h, hp => by
   obtain ⟨hn, r, rfl, h⟩ := h;simp only [Cells];have hl : c.length + r.length = vs.length := by simpa using hp.1
   have hA : PCells V c (vs.take n) := ⟨by simp; omega, fun j y hy => by
    have hj := (List.getElem?_eq_some_iff.1 hy).1;obtain ⟨v, h1, h2⟩ := hp.2 j y (by rw [List.getElem?_append_left hj]; exact hy);exact ⟨v, by rw [List.getElem?_take_of_lt (by omega)]; exact h1, h2⟩⟩
   refine ⟨.agg ⟨vs.take n⟩, vs.drop n, (List.take_append_drop n vs).symm, by simp only [Conc]; exact ⟨_, rfl, by simp; omega, hA⟩, by simp [Ax, SV.width]; omega, fun x hx => hA.one x hx, S4 h ⟨by simp; omega, fun j y hy => by
    obtain ⟨v, h1, h2⟩ := hp.2 (n + j) y (by rw [List.getElem?_append_right (by omega)]; simpa [hn] using hy);exact ⟨v, by rw [List.getElem?_drop]; exact h1, h2⟩⟩⟩
 | .agg _ :: _, _, _, h, _ => h.elim
 | .tup _ :: _, _, _, h, _ => h.elim
 | .p _ _ :: _, _, _, h, _ => h.elim
 | .ps _ _ :: _, _, _, h, _ => h.elim
 | .pr _ _ _ _ :: _, _, _, h, _ => h.elim
 | .pi _ _ _ _ :: _, _, _, h, _ => h.elim
 | .os _ :: _, _, _, h, _ => h.elim
 | .ov _ _ _ _ :: _, _, _, h, _ => h.elim
 | .fn _ _ :: _, _, _, h, _ => h.elim
 | .dead :: _, _, _, h, _ => h.elim
theorem Ai5 {l : List SV} {cs : List PV} {n : Nat} (h : Ajk l cs) : Imp (.vec n cs) (.agg l) := by
 intro V ρ v hv;simp only [Conc] at hv ⊢;obtain ⟨vs, rfl, _, hp⟩ := hv;exact ⟨vs, rfl, S4 h hp⟩
def Ah2 (a b : Vc) (k : Nat) : FS := mk [(8, .pv (.i .i64 k)), (7, .vec 8 (vE a)), (4, .pv (.b false)), (3, .p 3 0)] [(3, some (.var (.vec 8 (vE b))))]
theorem Aik (a b : Vc) {h d} : FunOk Tryz.prog 58 [.vec 8 (vE a), .vec 8 (vE b)] h d (.pv (.b (decide (Rn a b)))) [] := by
 refine Ap Ag fn58 (by simp) rfl rfl fun F => ?_;simp (disch := omega) only [ir58, go_sem];refine A1 Ag (Ah2 a b) (fun k => k ≤ 8 ∧ ∀ i, i < k → a i ≤ b i) (fun k => 8 - k) 0 (by simp) (Ak ?_ ?_) fun k hk => ?_
 · simp (disch := omega) only [go_sem]
 · simp (disch := omega) only [go_sem]
 obtain ⟨hk, hle⟩ := hk;by_cases hlt : k < 8
 · by_cases hc : a k ≤ b k
   · simp (disch := omega) only [Ah2, go_sem];refine Ad (k + 1) _ _ rfl ⟨by omega, fun i hi => ?_⟩ (by omega) ?_ ?_
     · by_cases e : i = k
       · subst e; exact hc
       · exact hle i (by omega)
     · simp (disch := omega) only [go_sem]
     · simp (disch := omega) only [go_sem]
   · have hn : ¬ Rn a b := fun h => hc (h k hlt);simp (disch := omega) only [Ah2, hn, go_sem]
 · have hn : Rn a b := fun i hi => hle i (by omega);simp (disch := omega) only [Ah2, hn, go_sem]
theorem Ue (g : SlI) (h : g.ok) : Imp (.pv g.pv) (.pv (.sl g.f 2 (g.l.map Eb))) := Sv (He id (h.imp (fun e => by rw [e]; rfl) id) (.refl _))
def Rw (r : Int) (q : Nat) (s : List UInt8) : Ver := ⟨r, q, s, fun _ => 0⟩
theorem Aht (r : Int) (q : Nat) (s : List UInt8) : Imp (.agg [.vec 2 [.i .i64 r, .i .u32 q], .pv (.s s), .vec 8 (vE fun _ => 0)]) (.vec 11 (Bc (Rw r q s))) := Hi (by rfl) (Hb _)
theorem Av1 {l : List Ver} {g : SlI} {r : Int} {q : Nat} {s : List UInt8} {h d} (hg : g.ok) (hs : Cv l) (hn : l.length ≤ 900) (hbn : g.l.length ≤ 900) (hm : ¬ Di l g.l) (ho : Bs l r q = none) :
 FunOk Tryz.prog 141 [.pv (.sl false 11 (l.map Bc)), .pv g.pv, .agg [.vec 2 [.i .i64 r, .i .u32 q], .pv (.s s), .vec 8 (vE fun _ => 0)]] h d (.tup [.pv (.sl false 11 ((Fo l g.l (Rw r q s)).map Bc)), .pv (.i .i64 0)]) [] := by
 refine FunOk.imp (args' := [.pv (.sl false 11 (l.map Bc)), .pv (.sl g.f 2 (g.l.map Eb)), .vec 11 (Bc (Rw r q s))]) ?_ ⟨Imp.refl _, Ue g hg, Aht r q s, trivial⟩ (by simp [A6, tn]);refine Aly Ag fn141 (by simp) rfl rfl fun F => ?_;exact Ajj hs hn hbn (fun h => absurd h hm) (fun _ h => by
  have ho' : Bs l (Rw r q s).rep (Rw r q s).seq = none := ho;rw [ho'] at h; cases h) (fun _ _ g n hg => .inl ⟨n, rfl, hg⟩)
theorem Adg {l : List Ver} {g : SlI} {r : Int} {q : Nat} {s : List UInt8} {h d} (hg : g.ok) (hs : Cv l) (hn : l.length ≤ 900) (hbn : g.l.length ≤ 900) (hm : Di l g.l) :
 FunOk Tryz.prog 141 [.pv (.sl false 11 (l.map Bc)), .pv g.pv, .agg [.vec 2 [.i .i64 r, .i .u32 q], .pv (.s s), .vec 8 (vE fun _ => 0)]] h d (.tup [.pv (.sl true 0 []), .pv (.i .i64 2)]) [] := by
 refine FunOk.imp (args' := [.pv (.sl false 11 (l.map Bc)), .pv (.sl g.f 2 (g.l.map Eb)), .vec 11 (Bc (Rw r q s))]) ?_ ⟨Imp.refl _, Ue g hg, Aht r q s, trivial⟩ (by simp [A6, tn]);exact Af3 rfl rfl hs hn hbn hm
def En (e : Evt) : Bq := match e.base.l with
 | [] => (0, 0)
 | b :: _ => b
def Fh (l : List Ver) (e : Evt) : List UInt8 :=
 if e.kind = 5 then e.data
 else if e.kind = 4 then Oj (Dw l (En e).1 (En e).2).1 e.off.toNat
 else Iw (Dw l (En e).1 (En e).2).1 e.off.toNat e.data
structure FitsW (l : List Ver) (e : Evt) : Prop where
 k : e.kind = 3 ∨ e.kind = 4 ∨ e.kind = 5
 off : e.kind ≠ 5 → 0 ≤ e.off ∧ e.off ≤ 200
 len : e.kind = 3 → e.off + e.data.length ≤ 200
 data : ∀ v ∈ l, v.data.length ≤ 200
theorem Zd {l : List Ver} (h : ∀ v ∈ l, v.data.length ≤ 200) (r : Int) (q : Nat) : (Dw l r q).1.length ≤ 200 := by
 unfold Dw;split
 · simp
 · split
   · rename_i v hv; exact h v (Y9 hv).1
   · simp
theorem Ze (l : List Ver) (r : Int) (q : Nat) : (Dw l r q).2 = 0 ∨ (Dw l r q).2 = 2 := by
 unfold Dw;split
 · exact .inl rfl
 · split
   · exact .inl rfl
   · exact .inr rfl
set_option maxHeartbeats 2000000 in
theorem Ain {l : List Ver} {e : Evt} (he : ev e) (hf : FitsW l e) (hs : Cv l) (hn : l.length ≤ 900) {h d} :
 FunOk Tryz.prog 140 [.pv (.sl false 11 (l.map Bc)), .vec 21 (A9 e)] h d (if e.kind = 5 ∨ (Dw l (En e).1 (En e).2).2 = 0 then .tup [.pv (.s (Fh l e)), .pv (.i .i64 0)] else .tup [.pv (.s []), .pv (.i .i64 2)]) [] := by
 refine Ap Ag fn140 (by simp) rfl (by split <;> rfl) fun F => ?_;by_cases h5 : e.kind = 5
 · rw [if_pos (.inl h5)];have hb : Fh l e = e.data := if_pos h5;simp (disch := omega) only [ir140, Af, h5, Hg, hb, go_sem]
 · have hz : (if e.kind = 5 ∨ (Dw l (En e).1 (En e).2).2 = 0 then (SV.tup [.pv (.s (Fh l e)), .pv (.i .i64 0)]) else .tup [.pv (.s []), .pv (.i .i64 2)]) = if (Dw l (En e).1 (En e).2).2 = 0 then (SV.tup [.pv (.s (Fh l e)), .pv (.i .i64 0)]) else .tup [.pv (.s []), .pv (.i .i64 2)] := by
    by_cases hd : (Dw l (En e).1 (En e).2).2 = 0
    · rw [if_pos (.inr hd), if_pos hd]
    · rw [if_neg (fun q => q.elim h5 hd), if_neg hd]
   rw [hz];have hoff := hf.off h5;have hdl := Zd hf.data (En e).1 (En e).2;have hpv : e.base.pv = .sl e.base.f e.base.z (e.base.l.map Eb) := rfl;cases hbl : e.base.l with
   | nil =>
     obtain ⟨b, hb⟩ : ∃ b : Bq, b = (0, 0) := ⟨_, rfl⟩
     have hbi : En e = b := by unfold En; rw [hbl, hb]
     simp (disch := omega) only [ir140, Af, h5, Fk, hpv, hbl, List.map_nil, go_sem];rw [hbi] at hdl ⊢;have hde := Ze l b.1 b.2;have hbv : Fh l e = if e.kind = 4 then Oj (Dw l b.1 b.2).1 e.off.toNat else Iw (Dw l b.1 b.2).1 e.off.toNat e.data := by unfold Fh; rw [if_neg h5, hbi]
     refine Aa (FunOk.imp (Ap0 (l := l) b.1 b.2 rfl rfl hs (by omega)) ⟨Imp.refl _, by subst hb; exact Hi (by rfl) rfl, trivial⟩ (by simp [A6, tn])) ?_;generalize Dw l b.1 b.2 = w at *;by_cases hw : w.2 = 0
     · rw [if_pos hw];by_cases h4 : e.kind = 4
       · rw [if_pos h4] at hbv;have hc := La (data := w.1) (n := e.off) (by omega);simp (disch := omega) only [hw, Af, h4, Ja, go_sem];refine Aa (Ay8 w.1 e.off (by omega)) ?_;simp (disch := omega) only [hc, hbv, go_sem]
       · rw [if_neg h4] at hbv;have h3 : e.kind = 3 := by have := hf.k; omega
         have hl := hf.len h3;have hc := Jf (data := w.1) (off := e.off) (s := e.data) (by unfold D5; omega);simp (disch := omega) only [hw, Af, h4, Ja, Hg, go_sem];refine Aa (Aih w.1 e.data e.off) ?_;simp (disch := omega) only [hc, hbv, go_sem]
     · rw [if_neg hw];have hw2 := hde.resolve_left hw;simp (disch := omega) only [hw2, go_sem]
   | cons b t =>
     have hbi : En e = b := by unfold En; rw [hbl]
     have hok : e.base.z = 2 := he.2.1.resolve_left (by rw [hbl]; simp);have h0 : (List.map Eb (b :: t))[0]? = some (Eb b) := rfl;have hpos : (0 : Int) < ((t.length : Int) + 1) := by omega
     simp (disch := omega) only [ir140, Af, h5, Fk, hpv, hbl, hok, List.length_map, h0, El, go_sem];rw [hbi] at hdl ⊢;have hde := Ze l b.1 b.2;have hbv : Fh l e = if e.kind = 4 then Oj (Dw l b.1 b.2).1 e.off.toNat else Iw (Dw l b.1 b.2).1 e.off.toNat e.data := by unfold Fh; rw [if_neg h5, hbi]
     refine Aa (FunOk.imp (Ap0 (l := l) b.1 b.2 rfl rfl hs (by omega)) ⟨Imp.refl _, Imp.refl _, trivial⟩ (by simp [A6, tn])) ?_;generalize Dw l b.1 b.2 = w at *;by_cases hw : w.2 = 0
     · rw [if_pos hw];by_cases h4 : e.kind = 4
       · rw [if_pos h4] at hbv;have hc := La (data := w.1) (n := e.off) (by omega);simp (disch := omega) only [hw, Af, h4, Ja, go_sem];refine Aa (Ay8 w.1 e.off (by omega)) ?_;simp (disch := omega) only [hc, hbv, go_sem]
       · rw [if_neg h4] at hbv;have h3 : e.kind = 3 := by have := hf.k; omega
         have hl := hf.len h3;have hc := Jf (data := w.1) (off := e.off) (s := e.data) (by unfold D5; omega);simp (disch := omega) only [hw, Af, h4, Ja, Hg, go_sem];refine Aa (Aih w.1 e.data e.off) ?_;simp (disch := omega) only [hc, hbv, go_sem]
     · rw [if_neg hw];have hw2 := hde.resolve_left hw;simp (disch := omega) only [hw2, go_sem]
abbrev Ah (e : Evt) : Bq := (e.rep, e.seq)
abbrev Az (e : Evt) : Bq := (e.orep, e.oseq)
abbrev Hl (e : Evt) : Bq := (e.drep, e.dseq)
theorem Y0 {l : List Obj} (hs : Eo l) {i : Bq} {o : Obj} (h : l[Cc l i]? = some o) (ho : o.id = i) : isO l i = true := by
 rw [Qr hs, h]; simp [ho]
theorem Asq {l : List Ver} {e : Evt} (h : ¬ Di l e.base.l) : (Dw l (En e).1 (En e).2).2 = 0 := by
 have key : ∀ b : Bq, (b = (0, 0) ∨ b ∈ e.base.l) → (Dw l b.1 b.2).2 = 0 := fun b hb => by
  by_cases hz : b.1 = 0 ∧ b.2 = 0
  · rw [Q8 hz]
  · cases hv : Bs l b.1 b.2 with
    | some v => rw [L6 hz hv]
    | none =>
      rcases hb with rfl | hb
      · exact absurd ⟨rfl, rfl⟩ hz
      · exact absurd ⟨b, hb, hv⟩ h
 refine key _ ?_;unfold En;cases e.base.l with
 | nil => exact .inl rfl
 | cons b t => exact .inr List.mem_cons_self
structure StOk (s : St) : Prop where
 fine : Fine s
 so : Eo s.objs
 se : Ds s.ents
structure VerOk (o : Obj) (e : Evt) : Prop where
 sv : Cv o.vers
 fw : FitsW o.vers e
 new : Bs o.vers e.rep e.seq = none
 bl : e.base.l.length ≤ 900
theorem Bk {rs : List Rv} {R : SV → FS → Prop} {s : FS} (h : Lp s rs fun l => R (one l) s) : Xx rs R s := ⟨s, .same s, h⟩
theorem Qy {l : List Obj} {k : Nat} {o : Obj} (h : l[k]? = some o) : (l.map Ar).getD k [] = Ar o := by
 rw [List.getD_eq_getElem?_getD, List.getElem?_map, h]; rfl
def wrO (s : St) (e : Evt) (o : Obj) : List Obj := s.objs.set (Cc s.objs (Az e)) { o with vers := Fo o.vers e.base.l (Rw e.rep e.seq (Fh o.vers e)) }
def Jd (s : St) : SV := .agg (A3 s (.os 38) (Fc s))
theorem D1 (s : St) : ∀ n ∈ tn (Jd s), n = 6 ∨ n = 38 := fun n hn => by
 simp [Jd, A3, Fc, tn, A6] at hn; exact .inr hn
set_option maxHeartbeats 4000000 in
theorem A5y {s : St} {e : Evt} {o : Obj} (hs : StOk s) (he : ev e) (ho : s.objs[Cc s.objs (Az e)]? = some o) (hid : o.id = Az e) (hd : o.dir = false) (hv : VerOk o e) (hm : ¬ Di o.vers e.base.l) {h d}
 (hg : h 6 = some (.var (Jd s))) (h38 : h 38 = some (.row 15 (s.objs.map Ar))) :
 DeepOk Tryz.prog 106 [.p 6 0, .vec 21 (A9 e)] h d (.pv (.i .i64 0)) [.new 38 (.row 15 ((wrO s e o).map Ar)), .upd 6 (.var (Jd s))] := by
 refine Ea Ag fn106 (by simp) hg h38 (by decide) rfl (D1 s) fun F => ?_;have hk := hv.fw.k;have n8 : ¬ e.kind = 8 := by omega
 have n9 : ¬ e.kind = 9 := by omega
 have n1 : ¬ e.kind = 1 := by omega
 have n2 : ¬ e.kind = 2 := by omega
 have n6 : ¬ e.kind = 6 := by omega
 have n7 : ¬ e.kind = 7 := by omega
 have hi := Y0 hs.so ho hid;have hlt := (List.getElem?_eq_some_iff.1 ho).1;have hel : (s.objs.map Ar)[Cc s.objs (Az e)]? = some (Ar o) := by rw [List.getElem?_map, ho]; rfl
 have hgd := Qy ho;have a1 := hs.fine.on;have a2 := hs.fine.ov o (List.mem_of_getElem? ho);have hb := Ain he hv.fw hv.sv (by omega) (h := fun _ => none) (d := 0);rw [if_pos (.inr (Asq hm))] at hb;simp (disch := omega) only [ir106, Jd, A3, Fc, Af, n8, n9, n1, n2, A8, go_sem];refine Aa (My (l := s.objs) (Az e) rfl rfl hs.so (by omega)) ?_;simp (disch := omega) only [hi, List.length_map, n6, n7, Af, hel, Ev, hd, E2, Bf, go_sem];refine Aa (hb.at (by simp [A6, tn])) ?_;simp (disch := omega) only [hel, E2, Fk, Aq, go_sem];have hpv : e.base.pv = .sl e.base.f e.base.z (e.base.l.map Eb) := rfl;have hA := Av1 (g := e.base) (r := e.rep) (q := e.seq) (s := Fh o.vers e) he.2.1 hv.sv (by omega) hv.bl hm hv.new (h := fun _ => none) (d := 0);refine Aa (hA.at (by simp [A6, tn, hpv])) ?_;have hsp := Acm o false 11 (Fo o.vers e.base.l (Rw e.rep e.seq (Fh o.vers e)));have hset : (s.objs.map Ar).set (Cc s.objs (Az e)) (E9 false 11 { o with vers := Fo o.vers e.base.l (Rw e.rep e.seq (Fh o.vers e)) }) = (wrO s e o).map Ar := by
  unfold wrO; rw [List.map_set]; rfl
 simp (disch := omega) only [hgd, hsp, List.length_map, hset, go_sem];refine Bk ?_;simp (disch := omega) only [go_sem]
def Zt (s : St) (e : Evt) (n : Int) : Prop := ∀ (h : Nat → Option Blk) (d : Nat), h 6 = some (.var (Jd s)) → h 38 = some (.row 15 (s.objs.map Ar)) → ∃ r X, DeepOk Tryz.prog 106 [.p 6 0, .vec 21 (A9 e)] h d (.pv (.i .i64 n)) [.new 38 (.row 15 r), .upd 6 (.var X)]
set_option maxHeartbeats 4000000 in
theorem Af2 {s : St} {e : Evt} {o : Obj} (hs : StOk s) (he : ev e) (ho : s.objs[Cc s.objs (Az e)]? = some o) (hid : o.id = Az e) (hd : o.dir = false) (hv : VerOk o e) (hm : Di o.vers e.base.l) : Zt s e 2 := by
 intro h d hg h38;have hk := hv.fw.k;have n8 : ¬ e.kind = 8 := by omega
 have n9 : ¬ e.kind = 9 := by omega
 have n1 : ¬ e.kind = 1 := by omega
 have n2 : ¬ e.kind = 2 := by omega
 have n6 : ¬ e.kind = 6 := by omega
 have n7 : ¬ e.kind = 7 := by omega
 have hi := Y0 hs.so ho hid;have hlt := (List.getElem?_eq_some_iff.1 ho).1;have hel : (s.objs.map Ar)[Cc s.objs (Az e)]? = some (Ar o) := by rw [List.getElem?_map, ho]; rfl
 have hgd := Qy ho;have a1 := hs.fine.on;have a2 := hs.fine.ov o (List.mem_of_getElem? ho);have hb := Ain he hv.fw hv.sv (by omega) (h := fun _ => none) (d := 0);by_cases hq : e.kind = 5 ∨ (Dw o.vers (En e).1 (En e).2).2 = 0
 · rw [if_pos hq] at hb;refine ⟨(s.objs.map Ar).set (Cc s.objs (Az e)) (splice (Ar o) 14 [.sl true 0 []]), Jd s, Ea Ag fn106 (by simp) hg h38 (by decide) rfl (D1 s) fun F => ?_⟩;simp (disch := omega) only [ir106, Jd, A3, Fc, Af, n8, n9, n1, n2, A8, go_sem];refine Aa (My (l := s.objs) (Az e) rfl rfl hs.so (by omega)) ?_;simp (disch := omega) only [hi, List.length_map, n6, n7, Af, hel, Ev, hd, E2, Bf, go_sem];refine Aa (hb.at (by simp [A6, tn])) ?_;simp (disch := omega) only [hel, E2, Fk, Aq, go_sem];have hpv : e.base.pv = .sl e.base.f e.base.z (e.base.l.map Eb) := rfl;have hA := Adg (g := e.base) (r := e.rep) (q := e.seq) (s := Fh o.vers e) he.2.1 hv.sv (by omega) hv.bl hm (h := fun _ => none) (d := 0);refine Aa (hA.at (by simp [A6, tn, hpv])) ?_;simp (disch := omega) only [hgd, List.length_map, go_sem];refine Bk ?_;simp (disch := omega) only [go_sem]
 · rw [if_neg hq] at hb;refine ⟨s.objs.map Ar, Jd s, Ea Ag fn106 (by simp) hg h38 (by decide) rfl (D1 s) fun F => ?_⟩;simp (disch := omega) only [ir106, Jd, A3, Fc, Af, n8, n9, n1, n2, A8, go_sem];refine Aa (My (l := s.objs) (Az e) rfl rfl hs.so (by omega)) ?_;simp (disch := omega) only [hi, List.length_map, n6, n7, Af, hel, Ev, hd, E2, Bf, go_sem];refine Aa (hb.at (by simp [A6, tn])) ?_;simp (disch := omega) only [go_sem];refine Bk ?_;simp (disch := omega) only [go_sem]
theorem Apv {s : St} {e : Evt} {o : Obj} (hs : StOk s) (hk : e.kind = 3 ∨ e.kind = 4 ∨ e.kind = 5) (ho : s.objs[Cc s.objs (Az e)]? = some o) (hid : o.id = Az e) (hd : o.dir = true) : Zt s e 23 := by
 intro h d hg h38;have n8 : ¬ e.kind = 8 := by omega
 have n9 : ¬ e.kind = 9 := by omega
 have n1 : ¬ e.kind = 1 := by omega
 have n2 : ¬ e.kind = 2 := by omega
 have n6 : ¬ e.kind = 6 := by omega
 have n7 : ¬ e.kind = 7 := by omega
 have hi := Y0 hs.so ho hid;have hlt := (List.getElem?_eq_some_iff.1 ho).1;have hel : (s.objs.map Ar)[Cc s.objs (Az e)]? = some (Ar o) := by rw [List.getElem?_map, ho]; rfl
 have a1 := hs.fine.on;refine ⟨s.objs.map Ar, Jd s, Ea Ag fn106 (by simp) hg h38 (by decide) rfl (D1 s) fun F => ?_⟩;simp (disch := omega) only [ir106, Jd, A3, Fc, Af, n8, n9, n1, n2, A8, go_sem];refine Aa (My (l := s.objs) (Az e) rfl rfl hs.so (by omega)) ?_;simp (disch := omega) only [hi, List.length_map, n6, n7, Af, hel, Ev, hd, E2, Bf, go_sem];refine Bk ?_;simp (disch := omega) only [go_sem]
theorem Akk {s : St} {e : Evt} (hs : StOk s) (hk : e.kind = 3 ∨ e.kind = 4 ∨ e.kind = 5 ∨ e.kind = 6 ∨ e.kind = 7) (hi : isO s.objs (Az e) = false) : Zt s e 2 := by
 intro h d hg h38;have n8 : ¬ e.kind = 8 := by omega
 have n9 : ¬ e.kind = 9 := by omega
 have n1 : ¬ e.kind = 1 := by omega
 have n2 : ¬ e.kind = 2 := by omega
 have a1 := hs.fine.on;refine ⟨s.objs.map Ar, Jd s, Ea Ag fn106 (by simp) hg h38 (by decide) rfl (D1 s) fun F => ?_⟩;simp (disch := omega) only [ir106, Jd, A3, Fc, Af, n8, n9, n1, n2, A8, go_sem];refine Aa (My (l := s.objs) (Az e) rfl rfl hs.so (by omega)) ?_;simp (disch := omega) only [hi, go_sem];refine Bk ?_;simp (disch := omega) only [go_sem]
theorem Mx {s : St} (i : Bq) {h d} (hs : Eo s.objs) (hn : s.objs.length ≤ 1000) (h38 : h 38 = some (.row 15 (s.objs.map Ar))) :
 FunOk Tryz.prog 135 [.agg [.vec 8 (vE s.known), .os 38, .pv (.sl false 15 (s.ents.map Bm)), .vec 8 (iE s.wards), .vec 8 (wE s.ret)], .vec 2 [.i .i64 i.1, .i .u32 i.2]] h d (.pv (.i .i64 (Kp s.objs i))) [] :=
 FunOk.lend (n := 38) (h' := h) (d' := d) h38 (by simp [A6, tn]) (by simp [A6, tn, SV.frz, SV.frzL]) rfl (Apr (s := s) i hs hn)
def Wl (e : Evt) : Obj := ⟨Ah e, decide (e.kind = 2), Ah e, e.name, fun _ => 0, []⟩
def Gj (e : Evt) (obj : Bq) : Ent := ⟨Ah e, Hl e, e.name, obj, fun _ => 0⟩
theorem Axr (e : Evt) (obj : Bq) : Imp (.agg [.vec 2 [.i .i64 e.rep, .i .u32 e.seq], .vec 2 [.i .i64 e.drep, .i .u32 e.dseq], .pv (.s e.name), .vec 2 [.i .i64 obj.1, .i .u32 obj.2], .vec 8 (vE fun _ => 0)]) (.vec 15 (Bm (Gj e obj))) := Hi (by rfl) (Dr _)
theorem Aax {l : List Ent} (e : Evt) (obj : Bq) {h d} (hs : Ds l) (hn : l.length ≤ 1000) :
 FunOk Tryz.prog 138 [.pv (.sl false 15 (l.map Bm)), .agg [.vec 2 [.i .i64 e.rep, .i .u32 e.seq], .vec 2 [.i .i64 e.drep, .i .u32 e.dseq], .pv (.s e.name), .vec 2 [.i .i64 obj.1, .i .u32 obj.2], .vec 8 (vE fun _ => 0)]] h d (.os d) [.new d (.row 15 ((Rf l (Gj e obj)).map Bm))] :=
 FunOk.imp (A1w (l := l) (Gj e obj) rfl rfl hs hn) ⟨Imp.refl _, Axr e obj, trivial⟩ (by simp [A6, tn])
set_option maxHeartbeats 4000000 in
theorem Akm {s : St} {e : Evt} (hs : StOk s) (hk : e.kind = 1 ∨ e.kind = 2) (hd : Kp s.objs (Hl e) ≠ 0) : Zt s e (Kp s.objs (Hl e)) := by
 intro h d hg h38;have n8 : ¬ e.kind = 8 := by omega
 have n9 : ¬ e.kind = 9 := by omega
 have a1 := hs.fine.on;refine ⟨s.objs.map Ar, Jd s, Ea Ag fn106 (by simp) hg h38 (by decide) rfl (D1 s) fun F => ?_⟩;rcases hk with hk | hk
 all_goals
  simp (disch := omega) only [ir106, Jd, A3, Fc, Af, n8, n9, hk, Dl, go_sem];refine Aa (Mx (s := s) (Hl e) hs.so (by omega) rfl) ?_;simp (disch := omega) only [hd, go_sem];refine Bk ?_;simp (disch := omega) only [go_sem]
def mkS (s : St) (e : Evt) : St := { s with objs := s.objs.take (Cc s.objs (Ah e)) ++ Wl e :: s.objs.drop (Cc s.objs (Ah e)), ents := Rf s.ents (Gj e (Ah e)) }
set_option maxHeartbeats 4000000 in
theorem A5z {s : St} {e : Evt} (hs : StOk s) (hk : e.kind = 1 ∨ e.kind = 2) (hd : Kp s.objs (Hl e) = 0) {h d}
 (hg : h 6 = some (.var (Jd s))) (h38 : h 38 = some (.row 15 (s.objs.map Ar))) :
 DeepOk Tryz.prog 106 [.p 6 0, .vec 21 (A9 e)] h d (.pv (.i .i64 0)) [.new 38 (.row 15 ((s.objs.map Ar).take (Cc s.objs (Ah e)) ++ E9 true 0 (Wl e) :: (s.objs.map Ar).drop (Cc s.objs (Ah e)))), .upd 6 (.var (Jd (mkS s e)))] := by
 have n8 : ¬ e.kind = 8 := by omega
 have n9 : ¬ e.kind = 9 := by omega
 have a1 := hs.fine.on;have a3 := hs.fine.en;refine Ea Ag fn106 (by simp) hg h38 (by decide) rfl (D1 _) fun F => ?_;rcases hk with hk | hk
 · skip
   simp (disch := omega) only [ir106, Jd, A3, Fc, Af, n8, n9, hk, Dl, go_sem];refine Aa (Mx (s := s) (Hl e) hs.so (by omega) rfl) ?_;simp (disch := omega) only [hd, Aq, go_sem];refine Aa (My (l := s.objs) (Ah e) rfl rfl hs.so (by omega)) ?_;have hN : ∀ b, b = decide (e.kind = 2) → (PV.i .i64 e.rep :: .i .u32 e.seq :: .b b :: .i .i64 e.rep :: .i .u32 e.seq :: .s e.name :: ((vE fun _ => 0) ++ [.sl true 0 []])) = E9 true 0 (Wl e) := fun b hb => by subst hb; rfl
   have hN := hN false (by simp [hk]);have hl9 : ((vE fun _ => 0) ++ [PV.sl true 0 []]).length = 9 := by simp [Bi]
   simp (disch := omega) only [Aq, Af, hk, Dp, hN, hl9, Eg, go_sem];have hp := Lq s.objs (Ah e);refine Aa (Apo (m := 38) (n := 75) (s.objs.map Ar) (E9 true 0 (Wl e)) (Cc s.objs (Ah e)) (by simpa using hp) (by simp; omega) (Yq _) (Eg _ _ _) (by decide) (by decide) (by decide) (by decide) rfl rfl) ?_;simp (disch := omega) only [Aq, Dl, Dp, go_sem];refine Aa (Aax (l := s.ents) e (Ah e) hs.se (by omega)) ?_;simp (disch := omega) only [go_sem];refine ⟨_, D3 93 rfl (D2 76 38 (by decide) rfl (.same _)), ?_⟩
   (try simp only [Ca, B9, B0, Bz, Bx, Bw, Bv, Bu]); simp (disch := omega) only [mkS, go_sem]
 · skip
   simp (disch := omega) only [ir106, Jd, A3, Fc, Af, n8, n9, hk, Dl, go_sem];refine Aa (Mx (s := s) (Hl e) hs.so (by omega) rfl) ?_;simp (disch := omega) only [hd, Aq, go_sem];refine Aa (My (l := s.objs) (Ah e) rfl rfl hs.so (by omega)) ?_;have hN : ∀ b, b = decide (e.kind = 2) → (PV.i .i64 e.rep :: .i .u32 e.seq :: .b b :: .i .i64 e.rep :: .i .u32 e.seq :: .s e.name :: ((vE fun _ => 0) ++ [.sl true 0 []])) = E9 true 0 (Wl e) := fun b hb => by subst hb; rfl
   have hN := hN true (by simp [hk]);have hl9 : ((vE fun _ => 0) ++ [PV.sl true 0 []]).length = 9 := by simp [Bi]
   simp (disch := omega) only [Aq, Af, hk, Dp, hN, hl9, Eg, go_sem];have hp := Lq s.objs (Ah e);refine Aa (Apo (m := 38) (n := 75) (s.objs.map Ar) (E9 true 0 (Wl e)) (Cc s.objs (Ah e)) (by simpa using hp) (by simp; omega) (Yq _) (Eg _ _ _) (by decide) (by decide) (by decide) (by decide) rfl rfl) ?_;simp (disch := omega) only [Aq, Dl, Dp, go_sem];refine Aa (Aax (l := s.ents) e (Ah e) hs.se (by omega)) ?_;simp (disch := omega) only [go_sem];refine ⟨_, D3 93 rfl (D2 76 38 (by decide) rfl (.same _)), ?_⟩
   (try simp only [Ca, B9, B0, Bz, Bx, Bw, Bv, Bu]); simp (disch := omega) only [mkS, go_sem]
def Ic (s : St) (e : Evt) : St := { s with wards := E7 s.wards (e.rep - 1).toNat e.ward }
def Oc (s : St) (e : Evt) : St := { s with ret := E7 s.ret (e.rep - 1).toNat true }
theorem Vt (s : St) {k : Nat} (hk : k < 8) (n : Int) (a b : PV) : splice (vE s.known ++ a :: b :: (iE s.wards ++ wE s.ret)) (10 + k) [.i .i64 n] = vE s.known ++ a :: b :: (iE (E7 s.wards k n) ++ wE s.ret) := by
 rw [← Ye hk];simp only [splice, vE, iE, wE, Cu];have hk2 : k = 0 ∨ k = 1 ∨ k = 2 ∨ k = 3 ∨ k = 4 ∨ k = 5 ∨ k = 6 ∨ k = 7 := by omega
 rcases hk2 with rfl | rfl | rfl | rfl | rfl | rfl | rfl | rfl <;> rfl
theorem Aaf (s : St) {k : Nat} (hk : k < 8) (n : Bool) (a b : PV) : splice (vE s.known ++ a :: b :: (iE s.wards ++ wE s.ret)) (18 + k) [.b n] = vE s.known ++ a :: b :: (iE s.wards ++ wE (E7 s.ret k n)) := by
 rw [← Yd hk];simp only [splice, vE, iE, wE, Cu];have hk2 : k = 0 ∨ k = 1 ∨ k = 2 ∨ k = 3 ∨ k = 4 ∨ k = 5 ∨ k = 6 ∨ k = 7 := by omega
 rcases hk2 with rfl | rfl | rfl | rfl | rfl | rfl | rfl | rfl <;> rfl
theorem R0 (s : St) : Imp (.vec 26 (vE s.known ++ .sl false 15 (s.objs.map Ar) :: .sl false 15 (s.ents.map Bm) :: (iE s.wards ++ wE s.ret))) (.agg (A5 s)) :=
 Ai5 ⟨Bi _, _, rfl, _, rfl, _, rfl, N5 _, _, rfl, Ru _, [], by simp, rfl⟩
theorem Akl {s : St} {e : Evt} (hk : e.kind = 8) (hr : 1 ≤ e.rep ∧ e.rep ≤ 8) {h d} (hg : h 6 = some (.var (.agg (A5 s)))) :
 FunOk Tryz.prog 106 [.p 6 0, .vec 21 (A9 e)] h d (.pv (.i .i64 0)) [.upd 6 (.var (.agg (A5 (Ic s e))))] := by
 refine Kb (g := 6) Ag fn106 (by simp) (by simp [A6, tn]) (by simp [A6, tn]) hg rfl (by simp [Blk.ptr, SV.kill]) rfl (fun _ => rfl) fun F => ?_;obtain ⟨k, hk8, hre⟩ : ∃ k : Nat, k < 8 ∧ e.rep - 1 = k := ⟨(e.rep - 1).toNat, by omega, by omega⟩
 have hS : Ic s e = { s with wards := E7 s.wards k e.ward } := by unfold Ic; rw [hre]; rfl
 have hsp := Vt s hk8 e.ward (.sl false 15 (s.objs.map Ar)) (.sl false 15 (s.ents.map Bm));rw [hS];simp (disch := omega) only [ir106, A5, A3, Blk.ptr, Af, hk, Dc, Up, hre, hsp, go_sem];refine ⟨mk [(4, .pv (.i .i64 0)), (1000000, .p 6 0)] [(6, some (.var (.agg (A5 { s with wards := E7 s.wards k e.ward }))))], Ak ?_ ?_, ?_⟩
 · simp (disch := omega) only [go_sem]
 · simp (disch := omega) only [go_sem];exact ⟨R0 { s with wards := E7 s.wards k e.ward }, rfl⟩
 (try simp only [Ca, B9, B0, Bz, Bx, Bw, Bv, Bu]); simp (disch := omega) only [go_sem]
 exact ⟨6, rfl, rfl⟩
theorem Apx {s : St} {e : Evt} (hk : e.kind = 9) (hr : 1 ≤ e.rep ∧ e.rep ≤ 8) {h d} (hg : h 6 = some (.var (.agg (A5 s)))) :
 FunOk Tryz.prog 106 [.p 6 0, .vec 21 (A9 e)] h d (.pv (.i .i64 0)) [.upd 6 (.var (.agg (A5 (Oc s e))))] := by
 refine Kb (g := 6) Ag fn106 (by simp) (by simp [A6, tn]) (by simp [A6, tn]) hg rfl (by simp [Blk.ptr, SV.kill]) rfl (fun _ => rfl) fun F => ?_;obtain ⟨k, hk8, hre⟩ : ∃ k : Nat, k < 8 ∧ e.rep - 1 = k := ⟨(e.rep - 1).toNat, by omega, by omega⟩
 have hS : Oc s e = { s with ret := E7 s.ret k true } := by unfold Oc; rw [hre]; rfl
 have hsp := Aaf s hk8 true (.sl false 15 (s.objs.map Ar)) (.sl false 15 (s.ents.map Bm));rw [hS];simp (disch := omega) only [ir106, A5, A3, Blk.ptr, Af, hk, Dc, hre, hsp, go_sem];refine ⟨mk [(4, .pv (.i .i64 0)), (1000000, .p 6 0)] [(6, some (.var (.agg (A5 { s with ret := E7 s.ret k true }))))], Ak ?_ ?_, ?_⟩
 · simp (disch := omega) only [go_sem]
 · simp (disch := omega) only [go_sem];exact ⟨R0 { s with ret := E7 s.ret k true }, rfl⟩
 (try simp only [Ca, B9, B0, Bz, Bx, Bw, Bv, Bu]); simp (disch := omega) only [go_sem]
 exact ⟨6, rfl, rfl⟩
theorem Ah8 (s : St) (es : List (List PV)) : Blk.frz 38 (.sl false 15 es) (.var (Jd s)) = .var (.agg (A3 s (.pv (.sl false 15 es)) (Fc s))) := by
 simp [Jd, A3, Fc, Blk.frz, SV.frz, SV.frzL]
theorem Apw {s : St} {e : Evt} (hk : e.kind = 8) (hr : 1 ≤ e.rep ∧ e.rep ≤ 8) {h d} (hg : h 6 = some (.var (Jd s))) (h38 : h 38 = some (.row 15 (s.objs.map Ar))) :
 DeepOk Tryz.prog 106 [.p 6 0, .vec 21 (A9 e)] h d (.pv (.i .i64 0)) [.frz 38 (.sl false 15 (s.objs.map Ar)), .upd 6 (.var (.agg (A5 (Ic s e))))] :=
 DeepOk.frz (args' := [.p 6 0, .vec 21 (A9 e)]) (h' := fun k => if k = 38 then none else (h k).map (Blk.frz 38 (.sl false 15 (s.objs.map Ar)))) (d' := d) h38 rfl (fun k _ => rfl) (Akl hk hr (by show (h 6).map _ = _; rw [hg, Option.map_some, Ah8]; rfl))
theorem Avw {s : St} {e : Evt} (hk : e.kind = 9) (hr : 1 ≤ e.rep ∧ e.rep ≤ 8) {h d} (hg : h 6 = some (.var (Jd s))) (h38 : h 38 = some (.row 15 (s.objs.map Ar))) :
 DeepOk Tryz.prog 106 [.p 6 0, .vec 21 (A9 e)] h d (.pv (.i .i64 0)) [.frz 38 (.sl false 15 (s.objs.map Ar)), .upd 6 (.var (.agg (A5 (Oc s e))))] :=
 DeepOk.frz (args' := [.p 6 0, .vec 21 (A9 e)]) (h' := fun k => if k = 38 then none else (h k).map (Blk.frz 38 (.sl false 15 (s.objs.map Ar)))) (d' := d) h38 rfl (fun k _ => rfl) (Apx hk hr (by show (h 6).map _ = _; rw [hg, Option.map_some, Ah8]; rfl))
def Agl (l : List Bq) (i : Bq) : Int := match l.findIdx? (fun x => decide (i = x)) with
 | some k => k
 | none => -1
def Ah3 (f : Bool) (l : List Bq) (i : Bq) (k : Nat) : FS := mk [(8, .pv (.i .i64 k)), (7, .pv (.i .i64 l.length)), (0, .pv (.sl f 2 (l.map Eb))), (3, .p 3 0)] [(3, some (.var (.vec 2 [.i .i64 i.1, .i .u32 i.2])))]
set_option maxHeartbeats 1000000 in
theorem App {f : Bool} {l : List Bq} (i : Bq) {h d} (hn : l.length ≤ 1000) : FunOk Tryz.prog 172 [.pv (.sl f 2 (l.map Eb)), .vec 2 [.i .i64 i.1, .i .u32 i.2]] h d (.pv (.i .i64 (Agl l i))) [] := by
 refine Ap Ag fn172 (by simp) rfl rfl fun F => ?_;simp (disch := omega) only [ir172, List.length_map, go_sem];refine A1 Ag (Ah3 f l i) (fun k => k ≤ l.length ∧ ∀ j x, j < k → l[j]? = some x → i ≠ x) (fun k => l.length - k) 0 ⟨by simp, fun j x hj => absurd hj (Nat.not_lt_zero j)⟩ (Ak ?_ ?_) fun k hk => ?_
 · simp (disch := omega) only [go_sem]
 · simp (disch := omega) only [go_sem]
 obtain ⟨hk1, hk2⟩ := hk;by_cases hlt : k < l.length
 · have hx : l[k]? = some l[k] := List.getElem?_eq_getElem hlt;have he : (l.map Eb)[k]? = some (Eb l[k]) := by rw [List.getElem?_map, hx]; rfl
   generalize l[k] = b at *;by_cases hb : i = b
   · have hp := Fd hb;have e : Agl l i = k := by
      have : l.findIdx? (fun x => decide (i = x)) = some k := by
       rw [List.findIdx?_eq_some_iff_getElem];refine ⟨hlt, by rw [List.getElem?_eq_getElem hlt] at hx; cases hx; simpa using hb, fun j hj => ?_⟩;have := hk2 j _ hj (List.getElem?_eq_getElem (by omega));simpa using this
      unfold Agl; rw [this]
     simp (disch := omega) only [Ah3, List.length_map, he, El, Ae, hp, e, go_sem]
   · have hp := Fe hb;simp (disch := omega) only [Ah3, List.length_map, he, El, Ae, hp, go_sem];refine Ad (k + 1) _ _ rfl ⟨by omega, fun j x hj hjx => ?_⟩ (by omega) ?_ ?_
     · by_cases ej : j = k
       · subst ej; rw [hx] at hjx; cases hjx; exact hb
       · exact hk2 j x (by omega) hjx
     · simp (disch := omega) only [go_sem]
     · simp (disch := omega) only [go_sem]
 · obtain rfl : k = l.length := by omega
   have e : Agl l i = -1 := by
    have : l.findIdx? (fun x => decide (i = x)) = none := by
     rw [List.findIdx?_eq_none_iff];intro x hx;obtain ⟨j, hj⟩ := List.mem_iff_getElem?.1 hx;have := hk2 j x (List.getElem?_eq_some_iff.1 hj).1 hj;simpa using this
    unfold Agl; rw [this]
   simp (disch := omega) only [Ah3, e, go_sem]
theorem Ari (l : List Bq) (i : Bq) : decide (0 ≤ Agl l i) = decide (i ∈ l) := by
 unfold Agl;cases h : l.findIdx? (fun x => decide (i = x)) with
 | some k =>
   have := List.findIdx?_eq_some_iff_getElem.1 h;obtain ⟨h1, h2, _⟩ := this;have h3 : i = l[k] := by simpa using h2
   have : i ∈ l := by rw [h3]; exact List.getElem_mem h1
   simp only [this, decide_true, decide_eq_true_eq]; omega
 | none =>
   have h2 := List.findIdx?_eq_none_iff.1 h;have : ¬ i ∈ l := fun hm => by have := h2 i hm; simp at this
   simp only [this, decide_false, decide_eq_false_iff_not]; omega
theorem Tl (g : SlI) (i : Bq) (hg : g.ok) {h d} (hn : g.l.length ≤ 1000) : FunOk Tryz.prog 157 [.pv g.pv, .vec 2 [.i .i64 i.1, .i .u32 i.2]] h d (.pv (.b (decide (i ∈ g.l)))) [] := by
 refine FunOk.imp (args' := [.pv (.sl g.f 2 (g.l.map Eb)), .vec 2 [.i .i64 i.1, .i .u32 i.2]]) ?_ ⟨Ue g hg, Imp.refl _, trivial⟩ (by simp [A6, tn]);refine Ap Ag fn157 (by simp) rfl rfl fun F => ?_;have e := Ari g.l i;simp (disch := omega) only [ir157, go_sem];refine Aa (App (l := g.l) i hn) ?_;simp (disch := omega) only [e, go_sem]
def Ew (e : Evt) (x : Ent) : Bool := decide (x.obj = Az e) && decide (x.id ∈ e.gone.l)
def Fm (e : Evt) (l m : List Ent) : List Ent := m.foldl (fun a x => if Ew e x = true then killL a x.id (Ah e) else a) l
theorem Wy (e : Evt) (l m : List Ent) (x : Ent) : Fm e l (m ++ [x]) = if Ew e x = true then killL (Fm e l m) x.id (Ah e) else Fm e l m := by
 simp [Fm, List.foldl_append]
theorem Ly {e : Evt} {l : List Ent} (h : Ds l) : ∀ m : List Ent, Ds (Fm e l m) := fun m => by
 unfold Fm
 induction m generalizing l with
 | nil => exact h
 | cons x m ih =>
   simp only [List.foldl_cons];split
   · exact ih (Aj0 h _ _)
   · exact ih h
theorem Sy {e : Evt} {l : List Ent} : ∀ m : List Ent, (Fm e l m).length = l.length := fun m => by
 unfold Fm
 induction m generalizing l with
 | nil => rfl
 | cons x m ih =>
   simp only [List.foldl_cons];split
   · rw [ih]; exact Awl _ _ _
   · exact ih
def Acl (s : St) (e : Evt) (i k : Nat) : FS := mk [(27, .pv (.i .i64 k)), (26, .pv (.i .i64 s.ents.length)), (25, .pv (.sl false 15 (s.ents.map Bm))), (5, .p 5 0), (0, .p 6 0), (1, .pr 38 15 i 0), (1000000, .p 6 0)] [(5, some (.var (.vec 21 (A9 e)))), (6, some (.var (.agg (A3 s (.os 38) (.pv (.sl false 15 ((Fm e s.ents (s.ents.take k)).map Bm))))))), (38, some (.row 15 (s.objs.map Ar)))]
theorem Aon {α : Type} {l : List α} {i : Nat} {x : α} (h : l[i]? = some x) : l.set i x = l := by
 obtain ⟨h1, h2⟩ := List.getElem?_eq_some_iff.1 h;rw [← h2]; exact List.set_getElem_self h1
def Tq (s : St) (e : Evt) (i : Nat) (o : Obj) : St := { s with objs := s.objs.set i { o with seen := Cz o.seen (Ba e.dep e.rep e.seq) }, ents := Fm e s.ents s.ents }
set_option maxHeartbeats 4000000 in
theorem Af0 {s : St} {e : Evt} {o : Obj} {i : Nat} (hs : StOk s) (he : ev e) (hk : e.kind = 6) (ho : s.objs[i]? = some o) {h d}
 (hg : h 6 = some (.var (Jd s))) (h38 : h 38 = some (.row 15 (s.objs.map Ar))) :
 DeepOk Tryz.prog 139 [.p 6 0, .pr 38 15 i 0, .vec 21 (A9 e)] h d (.pv (.i .i64 0)) [.new 38 (.row 15 ((Tq s e i o).objs.map Ar)), .upd 6 (.var (Jd (Tq s e i o)))] := by
 refine Ea Ag fn139 (by simp) hg h38 (by decide) rfl (D1 _) fun F => ?_;have hil := (List.getElem?_eq_some_iff.1 ho).1;have hel : (s.objs.map Ar)[i]? = some (Ar o) := by rw [List.getElem?_map, ho]; rfl
 have hgd := Qy ho;have a3 := hs.fine.en;simp (disch := omega) only [ir139, Jd, A3, Fc, Af, hk, List.length_map, go_sem];refine A1 Ag (Acl s e i) (fun k => k ≤ s.ents.length) (fun k => s.ents.length - k) 0 (by simp) (Ak ?_ ?_) fun k hk => ?_
 · simp (disch := omega) only [go_sem]
 · simp (disch := omega) only [A3, Fm, List.take_zero, List.foldl_nil, go_sem]
 by_cases hlt : k < s.ents.length
 · have hx : s.ents[k]? = some s.ents[k] := List.getElem?_eq_getElem hlt;have hel : (s.ents.map Bm)[k]? = some (Bm s.ents[k]) := by rw [List.getElem?_map, hx]; rfl
   have ht := C0 hx;have hsn := Wy e s.ents (s.ents.take k) s.ents[k];rw [← ht] at hsn;generalize s.ents[k] = x at *;have hel15 := Dr x;have hsoK := Ly (e := e) hs.se (s.ents.take k);have hlK := Sy (e := e) (l := s.ents) (s.ents.take k);by_cases h1 : x.obj = Az e
   · have hp := Fd h1;have hpv : e.gone.pv = .sl e.gone.f e.gone.z (e.gone.l.map Eb) := rfl;simp (disch := omega) only [Acl, A3, List.length_map, hel, Ff, hel15, C7, A8, Bp, Ae, hp, Ga, Dm, go_sem];refine Aa (Tl e.gone x.id he.1 he.2.2.1) ?_;by_cases h2 : x.id ∈ e.gone.l
     · have hg : Ew e x = true := by unfold Ew; simp [h1, h2]
       rw [if_pos hg] at hsn;simp (disch := omega) only [h2, Dm, Aq, go_sem];refine Aa (Ail (l := Fm e s.ents (s.ents.take k)) x.id (Ah e) rfl rfl hsoK (by omega)) ?_;simp (disch := omega) only [go_sem];refine ⟨k + 1, by omega, by omega, D3 52 rfl (Ak ?_ ?_)⟩
       · simp (disch := omega) only [go_sem]
       · simp (disch := omega) only [A3, hsn, go_sem]
     · have hg : ¬ Ew e x = true := by unfold Ew; simp [h2]
       rw [if_neg hg] at hsn;simp (disch := omega) only [h2, go_sem];refine Ad (k + 1) _ _ rfl (by omega) (by omega) ?_ ?_
       · simp (disch := omega) only [go_sem]
       · simp (disch := omega) only [A3, hsn, go_sem]
   · have hp := Fe h1;have hg : ¬ Ew e x = true := by unfold Ew; simp [h1]
     rw [if_neg hg] at hsn;simp (disch := omega) only [Acl, A3, List.length_map, hel, Ff, hel15, C7, A8, Bp, Ae, hp, Dm, go_sem];refine Ad (k + 1) _ _ rfl (by omega) (by omega) ?_ ?_
     · simp (disch := omega) only [go_sem]
     · simp (disch := omega) only [A3, hsn, go_sem]
 obtain rfl : k = s.ents.length := by omega
 have htk : s.ents.take s.ents.length = s.ents := List.take_length;simp (disch := omega) only [Acl, A3, htk, Af, hk, hel, Lu, Fb, Aq, go_sem];refine Aa (Aao e.dep e.rep e.seq) ?_;simp (disch := omega) only [go_sem];refine Aa (A1l o.seen (Ba e.dep e.rep e.seq)) ?_;have hsp := Vq o (Cz o.seen (Ba e.dep e.rep e.seq));have hset : (s.objs.map Ar).set i (Ar { o with seen := Cz o.seen (Ba e.dep e.rep e.seq) }) = (Tq s e i o).objs.map Ar := by
  unfold Tq; rw [List.map_set]
 have hvl := Bi (Cz o.seen (Ba e.dep e.rep e.seq));simp (disch := omega) only [hgd, hsp, List.length_map, hset, go_sem];refine Bk ?_;simp (disch := omega) only [Tq, go_sem]
def Wn (e : Evt) (o : Obj) : Obj := if Cm o.last.1 o.last.2 e.rep e.seq = true then { o with last := Ah e, name := e.name } else o
def M2 (s : St) (e : Evt) (i : Nat) (o : Obj) : St := { s with objs := s.objs.set i (Wn e o), ents := Rf (Fm e s.ents s.ents) (Gj e (Az e)) }
set_option maxHeartbeats 4000000 in
theorem Afz {s : St} {e : Evt} {o : Obj} {i : Nat} (hs : StOk s) (he : ev e) (hk : e.kind = 7) (hd : Kp s.objs (Hl e) = 0) (ho : s.objs[i]? = some o) {h d}
 (hg : h 6 = some (.var (Jd s))) (h38 : h 38 = some (.row 15 (s.objs.map Ar))) :
 DeepOk Tryz.prog 139 [.p 6 0, .pr 38 15 i 0, .vec 21 (A9 e)] h d (.pv (.i .i64 0)) [.new 38 (.row 15 ((M2 s e i o).objs.map Ar)), .upd 6 (.var (Jd (M2 s e i o)))] := by
 refine Ea Ag fn139 (by simp) hg h38 (by decide) rfl (D1 _) fun F => ?_;have hil := (List.getElem?_eq_some_iff.1 ho).1;have hel : (s.objs.map Ar)[i]? = some (Ar o) := by rw [List.getElem?_map, ho]; rfl
 have hgd := Qy ho;have a1 := hs.fine.on;have a3 := hs.fine.en;simp (disch := omega) only [ir139, Jd, A3, Fc, Af, hk, Dl, go_sem];refine Aa (Mx (s := s) (Hl e) hs.so (by omega) rfl) ?_;simp (disch := omega) only [hd, List.length_map, go_sem];refine A1 Ag (Acl s e i) (fun k => k ≤ s.ents.length) (fun k => s.ents.length - k) 0 (by simp) (Ak ?_ ?_) fun k hk => ?_
 · simp (disch := omega) only [go_sem]
 · simp (disch := omega) only [A3, Fm, List.take_zero, List.foldl_nil, go_sem]
 by_cases hlt : k < s.ents.length
 · have hx : s.ents[k]? = some s.ents[k] := List.getElem?_eq_getElem hlt;have hel : (s.ents.map Bm)[k]? = some (Bm s.ents[k]) := by rw [List.getElem?_map, hx]; rfl
   have ht := C0 hx;have hsn := Wy e s.ents (s.ents.take k) s.ents[k];rw [← ht] at hsn;generalize s.ents[k] = x at *;have hel15 := Dr x;have hsoK := Ly (e := e) hs.se (s.ents.take k);have hlK := Sy (e := e) (l := s.ents) (s.ents.take k);by_cases h1 : x.obj = Az e
   · have hp := Fd h1;have hpv : e.gone.pv = .sl e.gone.f e.gone.z (e.gone.l.map Eb) := rfl;simp (disch := omega) only [Acl, A3, List.length_map, hel, Ff, hel15, C7, A8, Bp, Ae, hp, Ga, Dm, go_sem];refine Aa (Tl e.gone x.id he.1 he.2.2.1) ?_;by_cases h2 : x.id ∈ e.gone.l
     · have hg : Ew e x = true := by unfold Ew; simp [h1, h2]
       rw [if_pos hg] at hsn;simp (disch := omega) only [h2, Dm, Aq, go_sem];refine Aa (Ail (l := Fm e s.ents (s.ents.take k)) x.id (Ah e) rfl rfl hsoK (by omega)) ?_;simp (disch := omega) only [go_sem];refine ⟨k + 1, by omega, by omega, D3 52 rfl (Ak ?_ ?_)⟩
       · simp (disch := omega) only [go_sem]
       · simp (disch := omega) only [A3, hsn, go_sem]
     · have hg : ¬ Ew e x = true := by unfold Ew; simp [h2]
       rw [if_neg hg] at hsn;simp (disch := omega) only [h2, go_sem];refine Ad (k + 1) _ _ rfl (by omega) (by omega) ?_ ?_
       · simp (disch := omega) only [go_sem]
       · simp (disch := omega) only [A3, hsn, go_sem]
   · have hp := Fe h1;have hg : ¬ Ew e x = true := by unfold Ew; simp [h1]
     rw [if_neg hg] at hsn;simp (disch := omega) only [Acl, A3, List.length_map, hel, Ff, hel15, C7, A8, Bp, Ae, hp, Dm, go_sem];refine Ad (k + 1) _ _ rfl (by omega) (by omega) ?_ ?_
     · simp (disch := omega) only [go_sem]
     · simp (disch := omega) only [A3, hsn, go_sem]
 obtain rfl : k = s.ents.length := by omega
 have htk : s.ents.take s.ents.length = s.ents := List.take_length;have hsG := Ly (e := e) hs.se s.ents;have hlG := Sy (e := e) (l := s.ents) s.ents;simp (disch := omega) only [Acl, A3, htk, Af, hk, Aq, Dl, Dp, A8, go_sem];refine Aa (Aax (l := Fm e s.ents s.ents) e (Az e) hsG (by omega)) ?_;simp (disch := omega) only [hel, Hz, Aq, go_sem];refine Aa (Mw o.last.1 o.last.2 e.rep e.seq) ?_;by_cases hl : Cm o.last.1 o.last.2 e.rep e.seq = true
 · have hmo : Wn e o = { o with last := Ah e, name := e.name } := if_pos hl;have hsp := Vs o (Ah e);have hsp2 := Vr { o with last := Ah e } e.name;have hset : ((s.objs.map Ar).set i (Ar { o with last := Ah e })).set i (Ar { o with last := Ah e, name := e.name }) = (M2 s e i o).objs.map Ar := by
    unfold M2; rw [List.set_set, List.map_set, hmo]
   have hgd2 : ((s.objs.map Ar).set i (Ar { o with last := Ah e })).getD i [] = Ar { o with last := Ah e } := by
    rw [List.getD_eq_getElem?_getD, List.getElem?_set_self (by simpa using hil)]; rfl
   simp (disch := omega) only [hl, go_sem];refine Re ?_;simp (disch := omega) only [Aq, Dp, hgd, hsp, List.length_map, List.length_set, hgd2, hsp2, hset, go_sem];refine ⟨_, D3 86 rfl (.same _), ?_⟩
   (try simp only [Ca, B9, B0, Bz, Bx, Bw, Bv, Bu]); simp (disch := omega) only [M2, go_sem]
 · have hmo : Wn e o = o := if_neg hl;have hl' : Cm o.last.1 o.last.2 e.rep e.seq = false := by simpa using hl
   have hset : s.objs.map Ar = (M2 s e i o).objs.map Ar := by
    unfold M2; rw [hmo];show _ = (s.objs.set i o).map Ar;rw [Aon ho]
   simp (disch := omega) only [hl', go_sem];refine ⟨_, D3 86 rfl (.same _), ?_⟩
   (try simp only [Ca, B9, B0, Bz, Bx, Bw, Bv, Bu]); simp (disch := omega) only [M2, go_sem]
   exact congrArg (fun q => some (Blk.row 15 q)) hset
theorem Afy {s : St} {e : Evt} {i : Nat} (hs : StOk s) (hk : e.kind = 7) (hd : Kp s.objs (Hl e) ≠ 0) {h d}
 (hg : h 6 = some (.var (Jd s))) (h38 : h 38 = some (.row 15 (s.objs.map Ar))) :
 DeepOk Tryz.prog 139 [.p 6 0, .pr 38 15 i 0, .vec 21 (A9 e)] h d (.pv (.i .i64 (Kp s.objs (Hl e)))) [.new 38 (.row 15 (s.objs.map Ar)), .upd 6 (.var (Jd s))] := by
 refine Ea Ag fn139 (by simp) hg h38 (by decide) rfl (D1 _) fun F => ?_;have a1 := hs.fine.on;simp (disch := omega) only [ir139, Jd, A3, Fc, Af, hk, Dl, go_sem];refine Aa (Mx (s := s) (Hl e) hs.so (by omega) rfl) ?_;simp (disch := omega) only [hd, go_sem];refine Bk ?_;simp (disch := omega) only [go_sem]
set_option maxHeartbeats 4000000 in
theorem Apz {s : St} {e : Evt} {o : Obj} (hs : StOk s) (he : ev e) (hk : e.kind = 6) (ho : s.objs[Cc s.objs (Az e)]? = some o) (hid : o.id = Az e) {h d}
 (hg : h 6 = some (.var (Jd s))) (h38 : h 38 = some (.row 15 (s.objs.map Ar))) :
 DeepOk Tryz.prog 106 [.p 6 0, .vec 21 (A9 e)] h d (.pv (.i .i64 0)) [.new 38 (.row 15 ((Tq s e (Cc s.objs (Az e)) o).objs.map Ar)), .upd 6 (.var (Jd (Tq s e (Cc s.objs (Az e)) o)))] := by
 refine Ea Ag fn106 (by simp) hg h38 (by decide) rfl (D1 _) fun F => ?_;have n8 : ¬ e.kind = 8 := by omega
 have n9 : ¬ e.kind = 9 := by omega
 have n1 : ¬ e.kind = 1 := by omega
 have n2 : ¬ e.kind = 2 := by omega
 have hi := Y0 hs.so ho hid;have hlt := (List.getElem?_eq_some_iff.1 ho).1;have a1 := hs.fine.on;simp (disch := omega) only [ir106, Jd, A3, Fc, Af, n8, n9, n1, n2, A8, go_sem];refine Aa (My (l := s.objs) (Az e) rfl rfl hs.so (by omega)) ?_;simp (disch := omega) only [hi, List.length_map, hk, Af, Bf, go_sem];refine G9 (Af0 hs he hk ho rfl rfl) ?_;simp (disch := omega) only [Jd, A3, Fc, go_sem];refine Bk ?_;simp (disch := omega) only [go_sem]
set_option maxHeartbeats 4000000 in
theorem Apy {s : St} {e : Evt} {o : Obj} (hs : StOk s) (he : ev e) (hk : e.kind = 7) (hd : Kp s.objs (Hl e) = 0) (ho : s.objs[Cc s.objs (Az e)]? = some o) (hid : o.id = Az e) {h d}
 (hg : h 6 = some (.var (Jd s))) (h38 : h 38 = some (.row 15 (s.objs.map Ar))) :
 DeepOk Tryz.prog 106 [.p 6 0, .vec 21 (A9 e)] h d (.pv (.i .i64 0)) [.new 38 (.row 15 ((M2 s e (Cc s.objs (Az e)) o).objs.map Ar)), .upd 6 (.var (Jd (M2 s e (Cc s.objs (Az e)) o)))] := by
 refine Ea Ag fn106 (by simp) hg h38 (by decide) rfl (D1 _) fun F => ?_;have n8 : ¬ e.kind = 8 := by omega
 have n9 : ¬ e.kind = 9 := by omega
 have n1 : ¬ e.kind = 1 := by omega
 have n2 : ¬ e.kind = 2 := by omega
 have hi := Y0 hs.so ho hid;have hlt := (List.getElem?_eq_some_iff.1 ho).1;have a1 := hs.fine.on;simp (disch := omega) only [ir106, Jd, A3, Fc, Af, n8, n9, n1, n2, A8, go_sem];refine Aa (My (l := s.objs) (Az e) rfl rfl hs.so (by omega)) ?_;simp (disch := omega) only [hi, List.length_map, hk, Af, Bf, go_sem];refine G9 (Afz hs he hk hd ho rfl rfl) ?_;simp (disch := omega) only [Jd, A3, Fc, go_sem];refine Bk ?_;simp (disch := omega) only [go_sem]
set_option maxHeartbeats 4000000 in
theorem Aau {s : St} {e : Evt} {o : Obj} (hs : StOk s) (hk : e.kind = 7) (hd : Kp s.objs (Hl e) ≠ 0) (ho : s.objs[Cc s.objs (Az e)]? = some o) (hid : o.id = Az e) : Zt s e (Kp s.objs (Hl e)) := by
 intro h d hg h38;refine ⟨s.objs.map Ar, Jd s, Ea Ag fn106 (by simp) hg h38 (by decide) rfl (D1 s) fun F => ?_⟩;have n8 : ¬ e.kind = 8 := by omega
 have n9 : ¬ e.kind = 9 := by omega
 have n1 : ¬ e.kind = 1 := by omega
 have n2 : ¬ e.kind = 2 := by omega
 have hi := Y0 hs.so ho hid;have hlt := (List.getElem?_eq_some_iff.1 ho).1;have a1 := hs.fine.on;simp (disch := omega) only [ir106, Jd, A3, Fc, Af, n8, n9, n1, n2, A8, go_sem];refine Aa (My (l := s.objs) (Az e) rfl rfl hs.so (by omega)) ?_;simp (disch := omega) only [hi, List.length_map, hk, Af, Bf, go_sem];refine G9 (Afy hs hk hd rfl rfl) ?_;simp (disch := omega) only [Jd, A3, Fc, go_sem];refine Bk ?_;simp (disch := omega) only [go_sem]
end Go.Proofs.YthmjebkldgdeiaaGreat.Fw
namespace Go.Proofs.YthmjebkldgdeiaaGreat.Fw
open Go.RowKit Go.Proofs
def Fa (l : List Obj) (i : Bq) : Option Obj := match l[Cc l i]? with
 | some o => if o.id = i then some o else none
 | none => none
theorem Gx {l : List Obj} {i : Bq} {o : Obj} (h : Fa l i = some o) : l[Cc l i]? = some o ∧ o.id = i := by
 unfold Fa at h;split at h
 · rename_i u hu;split at h
   · rename_i hi; cases h; exact ⟨hu, hi⟩
   · cases h
 · cases h
theorem Ald {l : List Obj} (hs : Eo l) (i : Bq) : isO l i = (Fa l i).isSome := by
 rw [Qr hs]; unfold Fa;cases l[Cc l i]? with
 | none => rfl
 | some x => simp only; by_cases h : x.id = i <;> simp [h]
theorem Agz {l : List Obj} (i : Bq) : Kp l i = if i = (0, 0) then 0 else match Fa l i with | some o => if o.dir = true then 0 else 22 | none => 2 := by
 unfold Kp Fa;split
 · rfl
 · cases l[Cc l i]? with
   | none => rfl
   | some x => simp only; by_cases h : x.id = i <;> simp [h]
open Classical in
noncomputable def T0 (s : St) (e : Evt) : Int :=
 if e.kind = 8 ∨ e.kind = 9 then 0
 else if e.kind = 1 ∨ e.kind = 2 then Kp s.objs (Hl e)
 else match Fa s.objs (Az e) with
  | none => 2
  | some o => if e.kind = 7 then Kp s.objs (Hl e) else if e.kind = 6 then 0 else if o.dir = true then 23 else if Di o.vers e.base.l then 2 else 0
def doS (s : St) (e : Evt) : St :=
 if e.kind = 8 then Ic s e
 else if e.kind = 9 then Oc s e
 else if e.kind = 1 ∨ e.kind = 2 then mkS s e
 else match Fa s.objs (Az e) with
  | none => s
  | some o => if e.kind = 7 then M2 s e (Cc s.objs (Az e)) o else if e.kind = 6 then Tq s e (Cc s.objs (Az e)) o else { s with objs := wrO s e o }
noncomputable def Ed (s : St) (e : Evt) : Int :=
 if Bo e = false then 7
 else if Bh s.known e.rep e.seq = true then 11
 else if ¬ Rn e.dep s.known then 10
 else if s.ret (e.rep - 1).toNat = true then 28
 else T0 s e
def Hh (s : St) (e : Evt) : St := { s with known := Ba s.known e.rep e.seq }
def E6 (s : St) (e : Evt) : St := doS (Hh s e) e
structure StIn (s : St) : Prop extends StOk s where
 sv : ∀ o ∈ s.objs, Cv o.vers
 sd : ∀ o ∈ s.objs, ∀ v ∈ o.vers, v.data.length ≤ 200
 sk : ∀ o ∈ s.objs, ∀ v ∈ o.vers, Bh s.known v.rep v.seq = true
theorem Cx {e : Evt} (h : Bo e = true) : Iq e := by
 unfold Bo at h;simp only [Bool.and_eq_true, decide_eq_true_eq] at h;exact h.1
theorem Xe {e : Evt} (h : Bo e = true) (hk : e.kind = 3 ∨ e.kind = 4 ∨ e.kind = 5) {l : List Ver} (hd : ∀ v ∈ l, v.data.length ≤ 200) : FitsW l e := by
 unfold Bo at h;simp only [Bool.and_eq_true, decide_eq_true_eq] at h;have hK := h.2.2.2;refine ⟨hk, fun h5 => ?_, fun h3 => ?_, hd⟩
 · have : e.kind = 3 ∨ e.kind = 4 := by omega
   rcases this with h3 | h4
   · rw [J7 h3] at hK;simp only [Bool.and_eq_true, Cw, decide_eq_true_eq] at hK;exact hK.2.2.1
   · rw [N3 h4] at hK;simp only [Bool.and_eq_true, Cw, decide_eq_true_eq] at hK;exact hK.2.2
 · rw [J7 h3] at hK;simp only [Bool.and_eq_true, Cw, decide_eq_true_eq] at hK;exact hK.2.2.2.2.2.2
theorem Oy {e : Evt} (h : Bo e = true) (hk : e.kind = 3 ∨ e.kind = 4 ∨ e.kind = 5) : e.base.l.length ≤ 8 := by
 unfold Bo at h;simp only [Bool.and_eq_true, decide_eq_true_eq] at h;have hK := h.2.2.2;rcases hk with h3 | h3 | h3
 · rw [J7 h3] at hK;simp only [Bool.and_eq_true, Eh, decide_eq_true_eq] at hK;have := hK.2.1.1; omega
 · rw [N3 h3] at hK;simp only [Bool.and_eq_true, Eh, decide_eq_true_eq] at hK;have := hK.2.1.1; omega
 · rw [N2 h3] at hK;simp only [Bool.and_eq_true, Eh, decide_eq_true_eq] at hK;have := hK.2.1.1; omega
structure DoIn (s : St) (e : Evt) : Prop where
 ok : StOk s
 ev : ev e
 ck : Bo e = true
 vo : e.kind = 3 ∨ e.kind = 4 ∨ e.kind = 5 → ∀ o ∈ s.objs, VerOk o e
theorem A77 {s : St} {e : Evt} (hi : DoIn s e) (hw : T0 s e ≠ 0) : Zt s e (T0 s e) := by
 have hb := Cx hi.ck;obtain ⟨b1, b2, b3, b4, b5, b6, b7⟩ := hb;unfold T0 at hw ⊢;rcases Classical.em (e.kind = 8 ∨ e.kind = 9) with h89 | h89
 · rw [if_pos h89] at hw; exact absurd rfl hw
 rw [if_neg h89] at hw ⊢;rcases Classical.em (e.kind = 1 ∨ e.kind = 2) with h12 | h12
 · rw [if_pos h12] at hw ⊢;exact Akm hi.ok h12 hw
 rw [if_neg h12] at hw ⊢;have hk : e.kind = 3 ∨ e.kind = 4 ∨ e.kind = 5 ∨ e.kind = 6 ∨ e.kind = 7 := by omega
 cases ho : Fa s.objs (Az e) with
 | none =>
   have : isO s.objs (Az e) = false := by rw [Ald hi.ok.so, ho]; rfl
   exact Akk hi.ok hk this
 | some o =>
   rw [ho] at hw;simp only at hw ⊢;obtain ⟨g1, g2⟩ := Gx ho;rcases Classical.em (e.kind = 7) with h7 | h7
   · rw [if_pos h7] at hw ⊢;exact Aau hi.ok h7 hw g1 g2
   rw [if_neg h7] at hw ⊢;rcases Classical.em (e.kind = 6) with h6 | h6
   · rw [if_pos h6] at hw; exact absurd rfl hw
   rw [if_neg h6] at hw ⊢;have hk : e.kind = 3 ∨ e.kind = 4 ∨ e.kind = 5 := by omega
   rcases Classical.em (o.dir = true) with hd | hd
   · rw [if_pos hd]; exact Apv hi.ok hk g1 g2 hd
   rw [if_neg hd] at hw ⊢;rcases Classical.em (Di o.vers e.base.l) with hm | hm
   · rw [if_pos hm]; exact Af2 hi.ok hi.ev g1 g2 (by simpa using hd) (hi.vo hk o (List.mem_of_getElem? g1)) hm
   · rw [if_neg hm] at hw; exact absurd rfl hw
theorem Ba0 {s : St} {e : Evt} (hi : DoIn s e) (hw : T0 s e = 0) (hk : ¬ (e.kind = 8 ∨ e.kind = 9)) : ∃ r, PImpR r ((doS s e).objs.map Ar) ∧
 ∀ {h : Nat → Option Blk} {d : Nat}, h 6 = some (.var (Jd s)) → h 38 = some (.row 15 (s.objs.map Ar)) → DeepOk Tryz.prog 106 [.p 6 0, .vec 21 (A9 e)] h d (.pv (.i .i64 0)) [.new 38 (.row 15 r), .upd 6 (.var (Jd (doS s e)))] := by
 have hb := Cx hi.ck;obtain ⟨b1, b2, b3, b4, b5, b6, b7⟩ := hb;have n8 : ¬ e.kind = 8 := fun h => hk (.inl h);have n9 : ¬ e.kind = 9 := fun h => hk (.inr h);unfold T0 at hw;unfold doS;rw [if_neg hk] at hw;rw [if_neg n8, if_neg n9];by_cases h12 : e.kind = 1 ∨ e.kind = 2
 · rw [if_pos h12] at hw ⊢;refine ⟨_, ?_, fun hg h38 => A5z hi.ok h12 hw hg h38⟩;simp only [mkS, List.map_append, List.map_take, List.map_drop, List.map_cons];exact PImpR.app (.refl _) ⟨Aip (Wl e) (.inl rfl), .refl _⟩
 rw [if_neg h12] at hw ⊢;have hk' : e.kind = 3 ∨ e.kind = 4 ∨ e.kind = 5 ∨ e.kind = 6 ∨ e.kind = 7 := by omega
 cases ho : Fa s.objs (Az e) with
 | none => rw [ho] at hw; cases hw
 | some o =>
   rw [ho] at hw;simp only at hw ⊢;obtain ⟨g1, g2⟩ := Gx ho;by_cases h7 : e.kind = 7
   · rw [if_pos h7] at hw ⊢;exact ⟨_, .refl _, fun hg h38 => Apy hi.ok hi.ev h7 hw g1 g2 hg h38⟩
   rw [if_neg h7] at hw ⊢;by_cases h6 : e.kind = 6
   · rw [if_pos h6];exact ⟨_, .refl _, fun hg h38 => Apz hi.ok hi.ev h6 g1 g2 hg h38⟩
   rw [if_neg h6] at hw ⊢;have hk : e.kind = 3 ∨ e.kind = 4 ∨ e.kind = 5 := by omega
   by_cases hd : o.dir = true
   · rw [if_pos hd] at hw; cases hw
   rw [if_neg hd] at hw;by_cases hm : Di o.vers e.base.l
   · rw [if_pos hm] at hw; cases hw
   · exact ⟨_, .refl _, fun hg h38 => A5y hi.ok hi.ev g1 g2 (by simpa using hd) (hi.vo hk o (List.mem_of_getElem? g1)) hm hg h38⟩
theorem Ar7 {s : St} (hs : StIn s) {e : Evt} (h : Bh s.known e.rep e.seq = false) {o : Obj} (ho : o ∈ s.objs) : Bs o.vers e.rep e.seq = none := by
 rw [Pm];intro v hv ⟨h1, h2⟩;have := hs.sk o ho v hv;rw [h1, h2, h] at this; cases this
theorem Ak8 {s : St} (hs : StIn s) {e : Evt} (he : ev e) (hc : Bo e = true) (h : Bh s.known e.rep e.seq = false) : DoIn (Hh s e) e :=
 ⟨⟨⟨hs.fine.on, hs.fine.ov, hs.fine.en⟩, hs.so, hs.se⟩, he, hc, fun hk o ho => ⟨hs.sv o ho, Xe hc hk (hs.sd o ho), Ar7 hs h ho, Nat.le_trans (Oy hc hk) (by omega)⟩⟩
theorem Aiy (a b : PV) (w : Nat → Int) (r : Nat → Bool) {j : Nat} (hj : j < 8) (K : KK) : LoadK (some (a :: b :: (iE w ++ wE r))) (18 + j - 8) 1 false K = K (.pv (.b (r j))) [] := by
 have e : 18 + j - 8 = 10 + j := by omega
 rw [e];simp only [LoadK, Hr, eq_iff_iff];have e2 : (a :: b :: (iE w ++ wE r)).getD (10 + j) (.b false) = .b (r j) := by
  have hk2 : j = 0 ∨ j = 1 ∨ j = 2 ∨ j = 3 ∨ j = 4 ∨ j = 5 ∨ j = 6 ∨ j = 7 := by omega
  simp only [iE, wE, Cu];rcases hk2 with rfl | rfl | rfl | rfl | rfl | rfl | rfl | rfl <;> rfl
 rw [e2];exact ⟨fun h => h.2.2, fun h => ⟨by simp [N5, Ru]; omega, .inr trivial, h⟩⟩
theorem T9 {x y z : SV} (h : Imp x y) : Imp (.tup [x, z]) (.tup [y, z]) := Ai4 ⟨h, Imp.refl _, trivial⟩
noncomputable def Afr (s : St) (e : Evt) : St := if Ed s e = 0 then E6 s e else st0
theorem P9 {s : St} {e : Evt} {n : Int} (h : Ed s e = n) (hn : n ≠ 0) : Imp (.tup [.agg [.vec 8 (vE fun _ => 0), .pv (.sl true 0 []), .pv (.sl true 0 []), .vec 8 (iE fun _ => 0), .vec 8 (wE fun _ => false)], .pv (.i .i64 n)]) (.tup [.agg (A5 (Afr s e)), .pv (.i .i64 (Ed s e))]) := by
 have e1 : Afr s e = st0 := if_neg (by rw [h]; exact hn);rw [e1, h];exact T9 Acs
set_option maxHeartbeats 8000000 in
theorem Aaw {s : St} {e : Evt} (hs : StIn s) (he : ev e) {h d} : FunOk Tryz.prog 71 [.agg (A5 s), .vec 21 (A9 e)] h d (.tup [.agg (A5 (Afr s e)), .pv (.i .i64 (Ed s e))]) [] := by
 refine N6 Ag fn71 (by simp) rfl rfl fun F => ?_;simp (disch := omega) only [ir71, A5, A3, Bf, go_sem];refine Aa (Av0 e he) ?_;by_cases hc' : Bo e = false
 · have hw : Ed s e = 7 := if_pos hc';simp (disch := omega) only [hc', go_sem];refine Bk ?_;simp (disch := omega) only [go_sem];exact P9 hw (by decide)
 have hc : Bo e = true := by simpa using hc'
 have hb := Cx hc;obtain ⟨b1, b2, _⟩ := hb;simp (disch := omega) only [hc, Aq, Fb, go_sem];refine Aa (Gi _ _ _) ?_;by_cases h1 : Bh s.known e.rep e.seq = true
 · have hw : Ed s e = 11 := by unfold Ed; rw [if_neg hc', if_pos h1]
   simp (disch := omega) only [h1, go_sem];refine Bk ?_;simp (disch := omega) only [go_sem];exact P9 hw (by decide)
 have h1' : Bh s.known e.rep e.seq = false := by simpa using h1
 simp (disch := omega) only [h1', Fb, go_sem];refine Aa (Aik _ _) ?_;by_cases h2 : Rn e.dep s.known;rotate_left
 · have hw : Ed s e = 10 := by unfold Ed; rw [if_neg hc', if_neg h1, if_pos h2]
   have h2' := decide_eq_false h2;simp (disch := omega) only [h2', go_sem];refine Bk ?_;simp (disch := omega) only [go_sem];exact P9 hw (by decide)
 have h2' := decide_eq_true h2;obtain ⟨k, hk8, hre⟩ : ∃ k : Nat, k < 8 ∧ e.rep - 1 = k := ⟨(e.rep - 1).toNat, by omega, by omega⟩
 have hld := fun (a b : PV) (w : Nat → Int) (r : Nat → Bool) (K : KK) => Aiy a b w r hk8 K;simp (disch := omega) only [h2', Dc, hre, hld, go_sem];by_cases h3 : s.ret k = true
 · have hw : Ed s e = 28 := by unfold Ed; rw [if_neg hc', if_neg h1, if_neg (by simpa using h2), if_pos (by rw [hre]; exact h3)]
   simp (disch := omega) only [h3, go_sem];refine Bk ?_;simp (disch := omega) only [go_sem];exact P9 hw (by decide)
 have h3' : s.ret k = false := by simpa using h3
 have hw : Ed s e = T0 (Hh s e) e := by unfold Ed; rw [if_neg hc', if_neg h1, if_neg (by simpa using h2), if_neg (by rw [hre]; exact h3)]; rfl
 simp (disch := omega) only [h3', go_sem];refine Aa (Ap2 (s := s) hs.fine) ?_;simp (disch := omega) only [A3, Fc, Aq, go_sem];refine Aa (Aao s.known e.rep e.seq) ?_;have hvl := Bi (Ba s.known e.rep e.seq);simp (disch := omega) only [Bf, hvl, go_sem];have hdi := Ak8 hs he hc h1';by_cases hz : T0 (Hh s e) e = 0;rotate_left
 · generalize hH : FS.h _ = H;have g6 : H 6 = some (.var (Jd (Hh s e))) := by rw [← hH]; rfl
   have g38 : H 38 = some (.row 15 ((Hh s e).objs.map Ar)) := by rw [← hH]; rfl
   obtain ⟨r, X, hdo⟩ := A77 hdi hz H 46 g6 g38;refine G9 hdo ?_;simp (disch := omega) only [hz, go_sem];refine Bk ?_;simp (disch := omega) only [go_sem];exact P9 hw hz
 have hR : Afr s e = doS (Hh s e) e := if_pos (hw.trans hz);rw [hR, hw, hz];by_cases h8 : e.kind = 8
 · have hS : doS (Hh s e) e = Ic (Hh s e) e := if_pos h8;rw [hS];refine G9 (Apw (s := Hh s e) h8 ⟨b1, b2⟩ rfl rfl) ?_;simp (disch := omega) only [A5, A3, go_sem];refine Bk ?_;simp (disch := omega) only [go_sem]
 by_cases h9 : e.kind = 9
 · have hS : doS (Hh s e) e = Oc (Hh s e) e := by unfold doS; rw [if_neg h8, if_pos h9]
   rw [hS];refine G9 (Avw (s := Hh s e) h9 ⟨b1, b2⟩ rfl rfl) ?_;simp (disch := omega) only [A5, A3, go_sem];refine Bk ?_;simp (disch := omega) only [go_sem]
 obtain ⟨r, hr, hdo⟩ := Ba0 hdi hz (fun h => h.elim h8 h9);refine G9 (hdo rfl rfl) ?_;generalize doS (Hh s e) e = S at *;simp (disch := omega) only [Jd, A3, Fc, go_sem];refine ⟨_, D3 38 rfl (.same _), ?_⟩
 (try simp only [Ca, B9, B0, Bz, Bx, Bw, Bv, Bu]); simp (disch := omega) only [go_sem]
 exact T9 (Ug (s := S) (.inr rfl) (.inr rfl) hr (.refl _))
end Go.Proofs.YthmjebkldgdeiaaGreat.Fw
namespace Go.Proofs.YthmjebkldgdeiaaGreat.Fw
open Go.RowKit Go.Proofs
theorem Apa (r : Int) (q : Nat) {h d} : FunOk Tryz.prog 131 [.vec 2 [.i .i64 r, .i .u32 q]] h d (.pv (.b (Cj r q))) [] := by
 refine Ap Ag fn131 (by simp) rfl rfl fun F => ?_;by_cases h1 : r = 0
 · by_cases h2 : q = 0
   · have e : Cj r q = true := decide_eq_true ⟨h1, h2⟩;have h2' : (q : Int) = 0 := by omega
     simp (disch := omega) only [ir131, Sn, Sl, h1, h2', e, go_sem];simp [Cj, h2]
   · have e : Cj r q = false := decide_eq_false fun h => h2 h.2;have h2' : ¬ (q : Int) = 0 := by omega
     simp (disch := omega) only [ir131, Sn, Sl, h1, h2', e, go_sem];simp [Cj, h2]
 · have e : Cj r q = false := decide_eq_false fun h => h1 h.1;simp (disch := omega) only [ir131, Sn, Sl, h1, e, go_sem]
def Z9 (f : Bool) (l : List Bq) (i : Bq) (k : Nat) : FS := mk [(5, .pv (.i .i64 k)), (0, .pv (.sl f 2 (l.map Eb))), (3, .p 3 0)] [(3, some (.var (.vec 2 [.i .i64 i.1, .i .u32 i.2])))]
set_option maxHeartbeats 1000000 in
theorem Pc (g : SlI) (i : Bq) (hg : g.ok) {h d} (hn : g.l.length ≤ 1000) : FunOk Tryz.prog 99 [.pv g.pv, .vec 2 [.i .i64 i.1, .i .u32 i.2]] h d (.pv (.b (decide (i ∈ g.l)))) [] := by
 refine FunOk.imp (args' := [.pv (.sl g.f 2 (g.l.map Eb)), .vec 2 [.i .i64 i.1, .i .u32 i.2]]) ?_ ⟨Ue g hg, Imp.refl _, trivial⟩ (by simp [A6, tn]);refine Ap Ag fn99 (by simp) rfl rfl fun F => ?_;generalize g.f = f;generalize g.l = l at *;simp (disch := omega) only [ir99, List.length_map, go_sem];refine A1 Ag (Z9 f l i) (fun k => k ≤ l.length ∧ ∀ j x, j < k → l[j]? = some x → i ≠ x) (fun k => l.length - k) 0 ⟨by simp, fun j x hj => absurd hj (Nat.not_lt_zero j)⟩ (Ak ?_ ?_) fun k hk => ?_
 · simp (disch := omega) only [go_sem]
 · simp (disch := omega) only [go_sem]
 obtain ⟨hk1, hk2⟩ := hk;by_cases hlt : k < l.length
 · have hx : l[k]? = some l[k] := List.getElem?_eq_getElem hlt;have he : (l.map Eb)[k]? = some (Eb l[k]) := by rw [List.getElem?_map, hx]; rfl
   have hm := List.getElem_mem hlt;generalize l[k] = b at *;by_cases hb : b = i
   · have hp := Fd hb;have e : decide (i ∈ l) = true := decide_eq_true (hb ▸ hm);simp (disch := omega) only [Z9, List.length_map, he, El, Ae, hp, e, go_sem]
   · have hp := Fe hb;simp (disch := omega) only [Z9, List.length_map, he, El, Ae, hp, go_sem];refine Ad (k + 1) _ _ rfl ⟨by omega, fun j x hj hjx => ?_⟩ (by omega) ?_ ?_
     · by_cases ej : j = k
       · subst ej; rw [hx] at hjx; cases hjx; exact fun q => hb q.symm
       · exact hk2 j x (by omega) hjx
     · simp (disch := omega) only [go_sem]
     · simp (disch := omega) only [go_sem]
 · obtain rfl : k = l.length := by omega
   have e : decide (i ∈ l) = false := decide_eq_false fun hm => by
    obtain ⟨j, hj⟩ := List.mem_iff_getElem?.1 hm;exact hk2 j i (List.getElem?_eq_some_iff.1 hj).1 hj rfl
   simp (disch := omega) only [Z9, List.length_map, e, go_sem]
theorem Anr (v : Vc) (r : Int) (q : Nat) : vE (Cz v (Qg r q)) = vE (Ba v r q) := Lg fun i hi => (Ab5 v r q i hi).symm
theorem E8 (v : Vc) (r : Int) (q : Nat) {h d} : FunOk Tryz.prog 62 [.vec 8 (vE v), .vec 2 [.i .i64 r, .i .u32 q]] h d (.vec 8 (vE (Ba v r q))) [] := by
 rw [← Anr]; exact Ui v r q
def Bn (l : List Evt) : Vc := l.foldl (fun v e => Ba v e.rep e.seq) (fun _ => 0)
theorem J6 (l : List Evt) (e : Evt) : Bn (l ++ [e]) = Ba (Bn l) e.rep e.seq := by simp [Bn]
def Z8 (f : Bool) (l : List Evt) (k : Nat) : FS := mk [(4, .pv (.i .i64 k)), (0, .pv (.sl f 21 (l.map A9))), (3, .p 3 0), (2, .p 2 0)] [(3, some (.var (.vec 8 (vE (Bn (l.take k)))))), (2, some (.var (.vec 8 (vE fun _ => 0))))]
set_option maxHeartbeats 1000000 in
theorem Aas {x : SV} {f : Bool} {l : List Evt} {h d} (hx : Cn h [x] = [.pv (.sl f 21 (l.map A9))]) (hl : Be [x] = true) (hn : l.length ≤ 1000) : FunOk Tryz.prog 19 [x] h d (.vec 8 (vE (Bn l))) [] := by
 refine Ci Ag fn19 (by simp) hl (Ahv _) fun F => ?_;rw [hx];simp (disch := omega) only [ir19, go_sem];refine A1 Ag (Z8 f l) (fun k => k ≤ l.length) (fun k => l.length - k) 0 (by simp) (Ak ?_ ?_) fun k hk => ?_
 · simp (disch := omega) only [go_sem]
 · simp (disch := omega) only [Bn, List.take_zero, List.foldl_nil, go_sem]
 by_cases hlt : k < l.length
 · have hx : l[k]? = some l[k] := List.getElem?_eq_getElem hlt;have he : (l.map A9)[k]? = some (A9 l[k]) := by rw [List.getElem?_map, hx]; rfl
   have ht := C0 hx;generalize l[k] = e at *;have hs : Bn (l.take (k + 1)) = Ba (Bn (l.take k)) e.rep e.seq := by rw [ht, J6]
   simp (disch := omega) only [Z8, List.length_map, he, Aq, go_sem];refine Aa (E8 _ _ _) ?_;simp (disch := omega) only [go_sem];refine Ad (k + 1) _ _ rfl (by omega) (by omega) ?_ ?_
   · simp (disch := omega) only [go_sem]
   · simp (disch := omega) only [hs, go_sem]
 · obtain rfl : k = l.length := by omega
   have htk : l.take l.length = l := List.take_length;simp (disch := omega) only [Z8, List.length_map, htk, go_sem]
def G8 (l : List Evt) (i : Bq) : Option Evt := l.find? fun e => decide (Ah e = i)
def Aab (f : Bool) (l : List Evt) (i : Bq) (z : SV) (k : Nat) : FS := mk [(6, .pv (.i .i64 k)), (0, .pv (.sl f 21 (l.map A9))), (3, .p 3 0), (4, .p 4 0)] [(3, some (.var (.vec 2 [.i .i64 i.1, .i .u32 i.2]))), (4, some (.var z))]
theorem Axj {l : List Evt} {i : Bq} {k : Nat} {e : Evt} (h : ∀ j x, j < k → l[j]? = some x → Ah x ≠ i) (hx : l[k]? = some e) (he : Ah e = i) : G8 l i = some e := by
 obtain ⟨hlt, hg⟩ := List.getElem?_eq_some_iff.1 hx;unfold G8;rw [List.find?_eq_some_iff_getElem];refine ⟨by simpa using he, k, hlt, hg, fun j hj => ?_⟩;simpa using h j _ hj (List.getElem?_eq_getElem (by omega))
theorem Al3 {l : List Evt} {i : Bq} (h : ∀ j x, j < l.length → l[j]? = some x → Ah x ≠ i) : G8 l i = none := by
 unfold G8;rw [List.find?_eq_none];intro x hx;obtain ⟨j, hj⟩ := List.mem_iff_getElem?.1 hx;simpa using h j x (List.getElem?_eq_some_iff.1 hj).1 hj
set_option maxHeartbeats 1000000 in
theorem Aat {f : Bool} {l : List Evt} (i : Bq) {h d} (hn : l.length ≤ 1000) : FunOk Tryz.prog 52 [.pv (.sl f 21 (l.map A9)), .vec 2 [.i .i64 i.1, .i .u32 i.2]] h d (match G8 l i with | some e => .tup [.vec 21 (A9 e), .pv (.b true)] | none => .tup [.vec 21 (A9 ⟨0, 0, fun _ => 0, 0, 0, 0, 0, 0, [], .nil, .nil, 0, [], 0⟩), .pv (.b false)]) [] := by
 refine N6 Ag fn52 (by simp) rfl (by split <;> rfl) fun F => ?_;simp (disch := omega) only [ir52, List.length_map, go_sem];refine A1 Ag (Aab f l i (.agg [.pv (.i .i64 0), .pv (.i .u32 0), .vec 8 (vE fun _ => 0), .pv (.i .i64 0), .pv (.i .i64 0), .pv (.i .u32 0), .pv (.i .i64 0), .pv (.i .u32 0), .pv (.s []), .pv (.sl true 0 []), .pv (.sl true 0 []), .pv (.i .i64 0), .pv (.s []), .pv (.i .i64 0)])) (fun k => k ≤ l.length ∧ ∀ j x, j < k → l[j]? = some x → Ah x ≠ i) (fun k => l.length - k) 0 ⟨by simp, fun j x hj => absurd hj (Nat.not_lt_zero j)⟩ (Ak ?_ ?_) fun k hk => ?_
 · simp (disch := omega) only [go_sem]
 · simp (disch := omega) only [go_sem]
 obtain ⟨hk1, hk2⟩ := hk;by_cases hlt : k < l.length
 · have hx : l[k]? = some l[k] := List.getElem?_eq_getElem hlt;have he : (l.map A9)[k]? = some (A9 l[k]) := by rw [List.getElem?_map, hx]; rfl
   generalize l[k] = e at *;by_cases hb : Ah e = i
   · have hp := Fd hb;have hf := Axj hk2 hx hb;rw [hf]
     (try simp only [Ca, B9, B0, Bz, Bx, Bw, Bv, Bu]); simp (disch := omega) only [Aab, List.length_map, he, Aq, Ae, hp, Bf, go_sem]
     refine Bk ?_;simp (disch := omega) only [go_sem]
   · have hp := Fe hb;simp (disch := omega) only [Aab, List.length_map, he, Aq, Ae, hp, go_sem];refine Ad (k + 1) _ _ rfl ⟨by omega, fun j x hj hjx => ?_⟩ (by omega) ?_ ?_
     · by_cases ej : j = k
       · subst ej; rw [hx] at hjx; cases hjx; exact hb
       · exact hk2 j x (by omega) hjx
     · simp (disch := omega) only [go_sem]
     · simp (disch := omega) only [go_sem]
 · obtain rfl : k = l.length := by omega
   rw [Al3 hk2]
   (try simp only [Ca, B9, B0, Bz, Bx, Bw, Bv, Bu]); simp (disch := omega) only [Aab, List.length_map, go_sem]
   refine Bk ?_;simp (disch := omega) only [go_sem];exact T9 (Hi rfl (by simp [Ac]))
theorem Kx (e : Evt) {h d} : FunOk Tryz.prog 132 [.vec 21 (A9 e)] h d (.pv (.b (decide (e.kind = 3 ∨ e.kind = 4 ∨ e.kind = 5)))) [] := by
 refine Ap Ag fn132 (by simp) rfl rfl fun F => ?_;by_cases h3 : e.kind = 3
 · simp (disch := omega) only [ir132, Af, h3, go_sem]
 by_cases h4 : e.kind = 4
 · simp (disch := omega) only [ir132, Af, h4, go_sem]
 by_cases h5 : e.kind = 5
 · simp (disch := omega) only [ir132, Af, h5, go_sem]
 · simp (disch := omega) only [ir132, Af, h3, h4, h5, go_sem]
def X2 (s : List UInt8) (n : Int) : List UInt8 := if n < 0 ∨ 200 < n then [] else Oj s n.toNat
open Classical in
noncomputable def Kk (s : List UInt8) (n : Int) (t : List UInt8) : List UInt8 := if D5 s n t then [] else Iw s n.toNat t
noncomputable def Gk (e : Evt) (was : List UInt8) : List UInt8 := if e.kind = 5 then e.data else if e.kind = 4 then X2 was e.off else Kk was e.off e.data
noncomputable def De (l : List Evt) : Nat → Bq → List UInt8
 | 0, _ => []
 | n + 1, i => match G8 l i with
   | none => []
   | some e => Gk e (match e.base.l with | [] => [] | b :: _ => De l n b)
theorem Aeg (s : List UInt8) (n : Nat) : (Oj s n).length = n := by
 unfold Oj; split
 · simp; omega
 · simp [Rp]; omega
theorem Wa (s t : List UInt8) (n : Nat) : (Iw s n t).length = max s.length (n + t.length) := by
 unfold Iw; simp [Rp]; omega
theorem Ajw {e : Evt} (he : e.data.length ≤ 1000) (was : List UInt8) : (Gk e was).length ≤ 1000 := by
 unfold Gk;split
 · exact he
 · split
   · unfold X2; split
     · simp
     · rw [Aeg]; omega
   · unfold Kk; split
     · simp
     · rename_i h;unfold D5 at h;rw [Wa]; omega
theorem Ag5 {l : List Evt} (h : ∀ e ∈ l, e.data.length ≤ 1000) (n : Nat) (i : Bq) : (De l n i).length ≤ 1000 := by
 cases n with
 | zero => simp [De]
 | succ n =>
   simp only [De];split
   · simp
   · rename_i e he;exact Ajw (h e (List.mem_of_find?_eq_some he)) _
def Grd (l : List Evt) (rk : Evt → Nat) : Prop := ∀ e ∈ l, e.kind ≠ 5 → ∀ b t, e.base.l = b :: t → ∀ e', G8 l b = some e' → rk e' < rk e
theorem Aav {l : List Evt} {i : Bq} (hn : l.length ≤ 1000) (hf : G8 l i = none) {x : SV} {f : Bool} {h d} (hx : Cn h [x, .vec 2 [.i .i64 i.1, .i .u32 i.2]] = [.pv (.sl f 21 (l.map A9)), .vec 2 [.i .i64 i.1, .i .u32 i.2]]) (hl : Be [x, .vec 2 [.i .i64 i.1, .i .u32 i.2]] = true) :
 FunOk Tryz.prog 133 [x, .vec 2 [.i .i64 i.1, .i .u32 i.2]] h d (.pv (.s [])) [] := by
 refine Ci Ag fn133 (by simp) hl rfl fun F => ?_;rw [hx];simp (disch := omega) only [ir133, go_sem];refine Aa (Aat (l := l) i hn) ?_;rw [hf]
 (try simp only [Ca, B9, B0, Bz, Bx, Bw, Bv, Bu]); simp (disch := omega) only [Ac, go_sem]
set_option maxHeartbeats 4000000 in
theorem Adf {l : List Evt} {rk : Evt → Nat} (hg : Grd l rk) (hn : l.length ≤ 1000) (hev : ∀ e ∈ l, ev e ∧ e.data.length ≤ 1000) : ∀ (n : Nat) (i : Bq), (∀ e, G8 l i = some e → rk e < n) → ∀ (x : SV) (f : Bool) (h : Nat → Option Blk) (d : Nat), Cn h [x, .vec 2 [.i .i64 i.1, .i .u32 i.2]] = [.pv (.sl f 21 (l.map A9)), .vec 2 [.i .i64 i.1, .i .u32 i.2]] → Be [x, .vec 2 [.i .i64 i.1, .i .u32 i.2]] = true →
 FunOk Tryz.prog 133 [x, .vec 2 [.i .i64 i.1, .i .u32 i.2]] h d (.pv (.s (De l n i))) []
 | 0, i, hr => by
   intro x f h d hx hl;have hf : G8 l i = none := by
    cases hq : G8 l i with
    | none => rfl
    | some e => exact absurd (hr e hq) (Nat.not_lt_zero _)
   exact Aav hn hf hx hl
 | n + 1, i, hr => by
   intro x f h d hx hl;refine Ci Ag fn133 (by simp) hl rfl fun F => ?_;rw [hx];simp (disch := omega) only [ir133, go_sem];refine Aa (Aat (l := l) i hn) ?_;cases hf : G8 l i with
   | none =>
     have eB : De l (n + 1) i = [] := by simp only [De, hf]
     (try simp only [Ca, B9, B0, Bz, Bx, Bw, Bv, Bu]); simp (disch := omega) only [eB, Ac, go_sem]
   | some e =>
     have hm := List.mem_of_find?_eq_some hf;obtain ⟨he, hd⟩ := hev e hm;have hpv : e.base.pv = .sl e.base.f e.base.z (e.base.l.map Eb) := rfl;have hel := Ac e;by_cases h5 : e.kind = 5
     · have eB : De l (n + 1) i = e.data := by simp only [De, hf, Gk, if_pos h5]
       (try simp only [Ca, B9, B0, Bz, Bx, Bw, Bv, Bu]); simp (disch := omega) only [hel, Af, h5, Hg, eB, go_sem]
     cases hbl : e.base.l with
     | nil =>
       obtain ⟨was, hwas⟩ : ∃ was : List UInt8, was = [] := ⟨_, rfl⟩
       have hwl : was.length ≤ 1000 := by rw [hwas]; simp
       have eB : De l (n + 1) i = Gk e was := by simp only [De, hf, hbl]; rw [hwas]
       (try simp only [Ca, B9, B0, Bz, Bx, Bw, Bv, Bu]); simp (disch := omega) only [hel, Af, h5, Fk, hpv, hbl, List.map_nil, ← hwas, go_sem]
       by_cases h4 : e.kind = 4
       · have eS : Gk e was = X2 was e.off := by unfold Gk; rw [if_neg h5, if_pos h4]
         (try simp only [Ca, B9, B0, Bz, Bx, Bw, Bv, Bu]); simp (disch := omega) only [Af, h4, Ja, go_sem]
         refine Aa (Ap1 was e.off hwl) ?_;by_cases hb : e.off < 0 ∨ 200 < e.off
         · have ec := Ji (data := was) hb;have ew : X2 was e.off = [] := if_pos hb;simp (disch := omega) only [ec, eB, eS, ew, go_sem]
         · have ec := La (data := was) hb;have ew : X2 was e.off = Oj was e.off.toNat := if_neg hb;simp (disch := omega) only [ec, eB, eS, ew, go_sem]
       · have eS : Gk e was = Kk was e.off e.data := by unfold Gk; rw [if_neg h5, if_neg h4]
         (try simp only [Ca, B9, B0, Bz, Bx, Bw, Bv, Bu]); simp (disch := omega) only [Af, h4, Ja, Hg, go_sem]
         refine Aa (Ac9 was e.data e.off hd) ?_;by_cases hb : D5 was e.off e.data
         · have ec := Ek hb;have ew : Kk was e.off e.data = [] := if_pos hb;simp (disch := omega) only [ec, eB, eS, ew, go_sem]
         · have ec := Jf hb;have ew : Kk was e.off e.data = Iw was e.off.toNat e.data := if_neg hb;simp (disch := omega) only [ec, eB, eS, ew, go_sem]
     | cons b t =>
       have hok : e.base.z = 2 := he.2.1.resolve_left (by rw [hbl]; simp);have h0 : (List.map Eb (b :: t))[0]? = some (Eb b) := rfl;have hpos : (0 : Int) < ((t.length : Int) + 1) := by omega
       have hrk := hg e hm h5 b t hbl;have hre := hr e hf
       (try simp only [Ca, B9, B0, Bz, Bx, Bw, Bv, Bu]); simp (disch := omega) only [hel, Af, h5, Fk, hpv, hbl, hok, List.length_map, h0, El, go_sem]
       refine Aa (Adf hg hn hev n b (fun e' he' => by have := hrk e' he'; omega) _ f _ _ rfl rfl) ?_;have eB : De l (n + 1) i = Gk e (De l n b) := by simp only [De, hf, hbl]
       have hwl := Ag5 (fun e he => (hev e he).2) n b (l := l);generalize De l n b = was at *;simp (disch := omega) only [go_sem];by_cases h4 : e.kind = 4
       · have eS : Gk e was = X2 was e.off := by unfold Gk; rw [if_neg h5, if_pos h4]
         (try simp only [Ca, B9, B0, Bz, Bx, Bw, Bv, Bu]); simp (disch := omega) only [Af, h4, Ja, go_sem]
         refine Aa (Ap1 was e.off hwl) ?_;by_cases hb : e.off < 0 ∨ 200 < e.off
         · have ec := Ji (data := was) hb;have ew : X2 was e.off = [] := if_pos hb;simp (disch := omega) only [ec, eB, eS, ew, go_sem]
         · have ec := La (data := was) hb;have ew : X2 was e.off = Oj was e.off.toNat := if_neg hb;simp (disch := omega) only [ec, eB, eS, ew, go_sem]
       · have eS : Gk e was = Kk was e.off e.data := by unfold Gk; rw [if_neg h5, if_neg h4]
         (try simp only [Ca, B9, B0, Bz, Bx, Bw, Bv, Bu]); simp (disch := omega) only [Af, h4, Ja, Hg, go_sem]
         refine Aa (Ac9 was e.data e.off hd) ?_;by_cases hb : D5 was e.off e.data
         · have ec := Ek hb;have ew : Kk was e.off e.data = [] := if_pos hb;simp (disch := omega) only [ec, eB, eS, ew, go_sem]
         · have ec := Jf hb;have ew : Kk was e.off e.data = Iw was e.off.toNat e.data := if_neg hb;simp (disch := omega) only [ec, eB, eS, ew, go_sem]
def mkB (e : Evt) : Bool := decide (e.kind = 1 ∨ e.kind = 2 ∨ e.kind = 7)
def Ey (e : Evt) : Bq := if e.kind = 7 then Az e else Ah e
def Hv (f : Evt) (obj id : Bq) : Bool := decide (f.kind = 6 ∨ f.kind = 7) && (decide (Az f = obj) && decide (id ∈ f.gone.l))
def byG (l : List Evt) (obj id : Bq) : Vc := l.foldl (fun g f => if Hv f obj id = true then Ba g f.rep f.seq else g) fun _ => 0
theorem Rc (l : List Evt) (f : Evt) (obj id : Bq) : byG (l ++ [f]) obj id = if Hv f obj id = true then Ba (byG l obj id) f.rep f.seq else byG l obj id := by simp [byG]
def Da (m : List Evt) (e : Evt) : Ent := ⟨Ah e, Hl e, e.name, Ey e, byG m (Ey e) (Ah e)⟩
def C3 (l m : List Evt) : List Ent := m.foldl (fun out e => if mkB e = true then Fi out (Da l e) false else out) []
theorem Pp (l m : List Evt) (e : Evt) : C3 l (m ++ [e]) = if mkB e = true then Fi (C3 l m) (Da l e) false else C3 l m := by simp [C3]
theorem R7 : ∀ (l : List Ent) (x : Ent) (b : Bool), (Fi l x b).length ≤ l.length + 1
 | [], x, b => by unfold Fi; split <;> simp
 | y :: l, x, b => by
   unfold Fi;split
   · have := R7 l x true; simp only [List.length_cons]; omega
   · split
     · have : Fi l x true = Fi l x true := rfl;have h2 : ∀ l : List Ent, (Fi l x true).length ≤ l.length := fun l => by
        induction l with
        | nil => simp [Fi]
        | cons z l ih => unfold Fi; split <;> simp <;> omega
       have := h2 l;simp only [List.length_cons]; omega
     · have := R7 l x b; simp only [List.length_cons]; omega
theorem S0 (l : List Evt) : ∀ (n : Nat) (m : List Evt), m.length = n → (C3 l m).length ≤ n
 | 0, m, h => by obtain rfl := List.eq_nil_of_length_eq_zero h; simp [C3]
 | n + 1, m, h => by
   have hne : m ≠ [] := fun e => by subst e; simp at h
   have e1 := (List.dropLast_concat_getLast hne).symm;have h1 := S0 l n m.dropLast (by simp [h]);rw [e1, Pp];split
   · have := R7 (C3 l m.dropLast) (Da l (m.getLast hne)) false; omega
   · omega
def X9 (f : Bool) (l : List Evt) (k : Nat) : FS := mk [(4, .pv (.i .i64 k)), (3, .os 40), (0, .pv (.sl f 21 (l.map A9)))] [(40, some (.row 15 ((C3 l (l.take k)).map Bm)))]
def Ej (f : Bool) (l : List Evt) (k : Nat) (e : Evt) (j : Nat) : FS := mk [(7, .pv (.i .i64 j)), (4, .pv (.i .i64 k)), (3, .os 40), (6, .p 6 0), (0, .pv (.sl f 21 (l.map A9)))] [(6, some (.var (.vec 15 (Bm (Da (l.take j) e))))), (40, some (.row 15 ((C3 l (l.take k)).map Bm)))]
set_option maxHeartbeats 8000000 in
theorem Yo {x : SV} {f : Bool} {l : List Evt} {h d} (hx : Cn h [x] = [.pv (.sl f 21 (l.map A9))]) (hl : Be [x] = true) (hn : l.length ≤ 1000) (hev : ∀ e ∈ l, ev e) : FunOk Tryz.prog 59 [x] h d (.pv (.sl false 15 ((C3 l l).map Bm))) [] := by
 refine Y6 Ag fn59 (by simp) hl (Jh _) fun F => ?_;rw [hx];simp (disch := omega) only [ir59, go_sem];refine A1 Ag (X9 f l) (fun k => k ≤ l.length) (fun k => l.length - k) 0 (by simp) (Rr 3 40 15 rfl (by omega) (Ak ?_ ?_)) fun k hk => ?_
 · simp (disch := omega) only [go_sem]
 · simp (disch := omega) only [C3, List.take_zero, List.foldl_nil, List.map_nil, go_sem]
 by_cases hlt : k < l.length
 · have hx : l[k]? = some l[k] := List.getElem?_eq_getElem hlt;have he : (l.map A9)[k]? = some (A9 l[k]) := by rw [List.getElem?_map, hx]; rfl
   have ht := C0 hx;have hel := Ac l[k];have hsn := Pp l (l.take k) l[k];rw [← ht] at hsn;generalize l[k] = e at *;have hlen := S0 l _ (l.take k) rfl;have hlt' : (l.take k).length ≤ 1000 := by simp; omega
   by_cases hmk : mkB e = true;rotate_left
   · rw [if_neg hmk] at hsn;have hk3 : ¬ (e.kind = 1 ∨ e.kind = 2 ∨ e.kind = 7) := by simpa [mkB] using hmk
     have n1 : ¬ e.kind = 1 := by omega
     have n2 : ¬ e.kind = 2 := by omega
     have n7 : ¬ e.kind = 7 := by omega
     simp (disch := omega) only [X9, List.length_map, he, Bf, hel, Af, n1, n2, n7, go_sem];refine Ad (k + 1) _ _ rfl (by omega) (by omega) ?_ ?_
     · simp (disch := omega) only [go_sem]
     · simp (disch := omega) only [hsn, go_sem]
   rw [if_pos hmk] at hsn;have hk3 : e.kind = 1 ∨ e.kind = 2 ∨ e.kind = 7 := by simpa [mkB] using hmk
   rcases hk3 with h1 | h2 | h7
   · have hoi : Ey e = Ah e := if_neg (by omega);simp (disch := omega) only [X9, List.length_map, he, Bf, hel, Af, h1, Aq, Dl, Dp, go_sem];refine A1 Ag (Ej f l k e) (fun j => j ≤ l.length) (fun j => l.length - j) 0 (by simp) (Ak ?_ ?_) fun j hj => ?_
     · simp (disch := omega) only [go_sem]
     · simp (disch := omega) only [Da, byG, List.take_zero, List.foldl_nil, hoi, go_sem];exact Hi rfl (Dr _)
     by_cases hjl : j < l.length
     · have hx2 : l[j]? = some l[j] := List.getElem?_eq_getElem hjl;have he2 : (l.map A9)[j]? = some (A9 l[j]) := by rw [List.getElem?_map, hx2]; rfl
       have ht2 := C0 hx2;have hevj := hev _ (List.getElem_mem hjl);generalize l[j] = g at *;have hB : Da (l.take (j + 1)) e = if Hv g (Ey e) (Ah e) = true then { Da (l.take j) e with gone := Ba (Da (l.take j) e).gone g.rep g.seq } else Da (l.take j) e := by
        unfold Da; rw [ht2, Rc]; split <;> rfl
       have hob : (Da (l.take j) e).obj = Ey e := rfl;have hid : (Da (l.take j) e).id = Ah e := rfl;generalize hX : Da (l.take j) e = X at *;by_cases hg : g.kind = 6 ∨ g.kind = 7;rotate_left
       · have g6 : ¬ g.kind = 6 := fun q => hg (.inl q);have g7 : ¬ g.kind = 7 := fun q => hg (.inr q);have hgo : ¬ Hv g (Ey e) (Ah e) = true := by unfold Hv; simp [hg]
         rw [if_neg hgo] at hB;simp (disch := omega) only [Ej, hX, List.length_map, he2, Af, g6, g7, go_sem];refine Ad (j + 1) _ _ rfl (by omega) (by omega) ?_ ?_
         · simp (disch := omega) only [go_sem]
         · simp (disch := omega) only [hB, go_sem]
       have hg' := hg;rcases hg with hg6 | hg7
       · skip
         by_cases ho : Az g = X.obj;rotate_left
         · have hp := Fe ho;have hgo : ¬ Hv g (Ey e) (Ah e) = true := by
            rw [hob] at ho; unfold Hv; simp [ho]
           rw [if_neg hgo] at hB;simp (disch := omega) only [Ej, hX, List.length_map, he2, Af, hg6, A8, C7, Ae, Bp, hp, go_sem];refine Ad (j + 1) _ _ rfl (by omega) (by omega) ?_ ?_
           · simp (disch := omega) only [go_sem]
           · simp (disch := omega) only [hB, go_sem]
         have hp := Fd ho;have hpv : g.gone.pv = .sl g.gone.f g.gone.z (g.gone.l.map Eb) := rfl;simp (disch := omega) only [Ej, hX, List.length_map, he2, Af, hg6, A8, C7, Ae, Bp, hp, Ga, Dm, go_sem];refine Aa (Pc g.gone X.id hevj.1 hevj.2.2.1) ?_;by_cases hin : X.id ∈ g.gone.l
         · have hgo : Hv g (Ey e) (Ah e) = true := by
            rw [hob] at ho; rw [hid] at hin; unfold Hv; simp [hg', ho, hin]
           rw [if_pos hgo] at hB;have hsp := G3 X (Ba X.gone g.rep g.seq);have hvl := Bi (Ba X.gone g.rep g.seq);simp (disch := omega) only [hin, Ii, List.length_map, he2, Aq, go_sem];refine Aa (E8 _ _ _) ?_;simp (disch := omega) only [hsp, hvl, go_sem];refine Ad (j + 1) _ _ rfl (by omega) (by omega) ?_ ?_
           · simp (disch := omega) only [go_sem]
           · simp (disch := omega) only [hB, go_sem]
         · have hgo : ¬ Hv g (Ey e) (Ah e) = true := by
            rw [hid] at hin; unfold Hv; simp [hin]
           rw [if_neg hgo] at hB;simp (disch := omega) only [hin, go_sem];refine Ad (j + 1) _ _ rfl (by omega) (by omega) ?_ ?_
           · simp (disch := omega) only [go_sem]
           · simp (disch := omega) only [hB, go_sem]
       · have g6 : ¬ g.kind = 6 := by omega
         by_cases ho : Az g = X.obj;rotate_left
         · have hp := Fe ho;have hgo : ¬ Hv g (Ey e) (Ah e) = true := by
            rw [hob] at ho; unfold Hv; simp [ho]
           rw [if_neg hgo] at hB;simp (disch := omega) only [Ej, hX, List.length_map, he2, Af, g6, hg7, A8, C7, Ae, Bp, hp, go_sem];refine Ad (j + 1) _ _ rfl (by omega) (by omega) ?_ ?_
           · simp (disch := omega) only [go_sem]
           · simp (disch := omega) only [hB, go_sem]
         have hp := Fd ho;have hpv : g.gone.pv = .sl g.gone.f g.gone.z (g.gone.l.map Eb) := rfl;simp (disch := omega) only [Ej, hX, List.length_map, he2, Af, g6, hg7, A8, C7, Ae, Bp, hp, Ga, Dm, go_sem];refine Aa (Pc g.gone X.id hevj.1 hevj.2.2.1) ?_;by_cases hin : X.id ∈ g.gone.l
         · have hgo : Hv g (Ey e) (Ah e) = true := by
            rw [hob] at ho; rw [hid] at hin; unfold Hv; simp [hg', ho, hin]
           rw [if_pos hgo] at hB;have hsp := G3 X (Ba X.gone g.rep g.seq);have hvl := Bi (Ba X.gone g.rep g.seq);simp (disch := omega) only [hin, Ii, List.length_map, he2, Aq, go_sem];refine Aa (E8 _ _ _) ?_;simp (disch := omega) only [hsp, hvl, go_sem];refine Ad (j + 1) _ _ rfl (by omega) (by omega) ?_ ?_
           · simp (disch := omega) only [go_sem]
           · simp (disch := omega) only [hB, go_sem]
         · have hgo : ¬ Hv g (Ey e) (Ah e) = true := by
            rw [hid] at hin; unfold Hv; simp [hin]
           rw [if_neg hgo] at hB;simp (disch := omega) only [hin, go_sem];refine Ad (j + 1) _ _ rfl (by omega) (by omega) ?_ ?_
           · simp (disch := omega) only [go_sem]
           · simp (disch := omega) only [hB, go_sem]
     · obtain rfl : j = l.length := by omega
       have htk : l.take l.length = l := List.take_length;simp (disch := omega) only [Ej, List.length_map, htk, Ff, go_sem];refine Aa (Aap (l := C3 l (l.take k)) (Da l e) rfl rfl (by omega)) ?_;simp (disch := omega) only [go_sem];refine ⟨k + 1, by omega, by omega, D3 40 rfl (D2 99 40 (by decide) rfl (Ak ?_ ?_))⟩
       · simp (disch := omega) only [go_sem]
       · simp (disch := omega) only [hsn, go_sem]
   · have hoi : Ey e = Ah e := if_neg (by omega);have n1 : ¬ e.kind = 1 := by omega
     simp (disch := omega) only [X9, List.length_map, he, Bf, hel, Af, n1, h2, Aq, Dl, Dp, go_sem];refine A1 Ag (Ej f l k e) (fun j => j ≤ l.length) (fun j => l.length - j) 0 (by simp) (Ak ?_ ?_) fun j hj => ?_
     · simp (disch := omega) only [go_sem]
     · simp (disch := omega) only [Da, byG, List.take_zero, List.foldl_nil, hoi, go_sem];exact Hi rfl (Dr _)
     by_cases hjl : j < l.length
     · have hx2 : l[j]? = some l[j] := List.getElem?_eq_getElem hjl;have he2 : (l.map A9)[j]? = some (A9 l[j]) := by rw [List.getElem?_map, hx2]; rfl
       have ht2 := C0 hx2;have hevj := hev _ (List.getElem_mem hjl);generalize l[j] = g at *;have hB : Da (l.take (j + 1)) e = if Hv g (Ey e) (Ah e) = true then { Da (l.take j) e with gone := Ba (Da (l.take j) e).gone g.rep g.seq } else Da (l.take j) e := by
        unfold Da; rw [ht2, Rc]; split <;> rfl
       have hob : (Da (l.take j) e).obj = Ey e := rfl;have hid : (Da (l.take j) e).id = Ah e := rfl;generalize hX : Da (l.take j) e = X at *;by_cases hg : g.kind = 6 ∨ g.kind = 7;rotate_left
       · have g6 : ¬ g.kind = 6 := fun q => hg (.inl q);have g7 : ¬ g.kind = 7 := fun q => hg (.inr q);have hgo : ¬ Hv g (Ey e) (Ah e) = true := by unfold Hv; simp [hg]
         rw [if_neg hgo] at hB;simp (disch := omega) only [Ej, hX, List.length_map, he2, Af, g6, g7, go_sem];refine Ad (j + 1) _ _ rfl (by omega) (by omega) ?_ ?_
         · simp (disch := omega) only [go_sem]
         · simp (disch := omega) only [hB, go_sem]
       have hg' := hg;rcases hg with hg6 | hg7
       · skip
         by_cases ho : Az g = X.obj;rotate_left
         · have hp := Fe ho;have hgo : ¬ Hv g (Ey e) (Ah e) = true := by
            rw [hob] at ho; unfold Hv; simp [ho]
           rw [if_neg hgo] at hB;simp (disch := omega) only [Ej, hX, List.length_map, he2, Af, hg6, A8, C7, Ae, Bp, hp, go_sem];refine Ad (j + 1) _ _ rfl (by omega) (by omega) ?_ ?_
           · simp (disch := omega) only [go_sem]
           · simp (disch := omega) only [hB, go_sem]
         have hp := Fd ho;have hpv : g.gone.pv = .sl g.gone.f g.gone.z (g.gone.l.map Eb) := rfl;simp (disch := omega) only [Ej, hX, List.length_map, he2, Af, hg6, A8, C7, Ae, Bp, hp, Ga, Dm, go_sem];refine Aa (Pc g.gone X.id hevj.1 hevj.2.2.1) ?_;by_cases hin : X.id ∈ g.gone.l
         · have hgo : Hv g (Ey e) (Ah e) = true := by
            rw [hob] at ho; rw [hid] at hin; unfold Hv; simp [hg', ho, hin]
           rw [if_pos hgo] at hB;have hsp := G3 X (Ba X.gone g.rep g.seq);have hvl := Bi (Ba X.gone g.rep g.seq);simp (disch := omega) only [hin, Ii, List.length_map, he2, Aq, go_sem];refine Aa (E8 _ _ _) ?_;simp (disch := omega) only [hsp, hvl, go_sem];refine Ad (j + 1) _ _ rfl (by omega) (by omega) ?_ ?_
           · simp (disch := omega) only [go_sem]
           · simp (disch := omega) only [hB, go_sem]
         · have hgo : ¬ Hv g (Ey e) (Ah e) = true := by
            rw [hid] at hin; unfold Hv; simp [hin]
           rw [if_neg hgo] at hB;simp (disch := omega) only [hin, go_sem];refine Ad (j + 1) _ _ rfl (by omega) (by omega) ?_ ?_
           · simp (disch := omega) only [go_sem]
           · simp (disch := omega) only [hB, go_sem]
       · have g6 : ¬ g.kind = 6 := by omega
         by_cases ho : Az g = X.obj;rotate_left
         · have hp := Fe ho;have hgo : ¬ Hv g (Ey e) (Ah e) = true := by
            rw [hob] at ho; unfold Hv; simp [ho]
           rw [if_neg hgo] at hB;simp (disch := omega) only [Ej, hX, List.length_map, he2, Af, g6, hg7, A8, C7, Ae, Bp, hp, go_sem];refine Ad (j + 1) _ _ rfl (by omega) (by omega) ?_ ?_
           · simp (disch := omega) only [go_sem]
           · simp (disch := omega) only [hB, go_sem]
         have hp := Fd ho;have hpv : g.gone.pv = .sl g.gone.f g.gone.z (g.gone.l.map Eb) := rfl;simp (disch := omega) only [Ej, hX, List.length_map, he2, Af, g6, hg7, A8, C7, Ae, Bp, hp, Ga, Dm, go_sem];refine Aa (Pc g.gone X.id hevj.1 hevj.2.2.1) ?_;by_cases hin : X.id ∈ g.gone.l
         · have hgo : Hv g (Ey e) (Ah e) = true := by
            rw [hob] at ho; rw [hid] at hin; unfold Hv; simp [hg', ho, hin]
           rw [if_pos hgo] at hB;have hsp := G3 X (Ba X.gone g.rep g.seq);have hvl := Bi (Ba X.gone g.rep g.seq);simp (disch := omega) only [hin, Ii, List.length_map, he2, Aq, go_sem];refine Aa (E8 _ _ _) ?_;simp (disch := omega) only [hsp, hvl, go_sem];refine Ad (j + 1) _ _ rfl (by omega) (by omega) ?_ ?_
           · simp (disch := omega) only [go_sem]
           · simp (disch := omega) only [hB, go_sem]
         · have hgo : ¬ Hv g (Ey e) (Ah e) = true := by
            rw [hid] at hin; unfold Hv; simp [hin]
           rw [if_neg hgo] at hB;simp (disch := omega) only [hin, go_sem];refine Ad (j + 1) _ _ rfl (by omega) (by omega) ?_ ?_
           · simp (disch := omega) only [go_sem]
           · simp (disch := omega) only [hB, go_sem]
     · obtain rfl : j = l.length := by omega
       have htk : l.take l.length = l := List.take_length;simp (disch := omega) only [Ej, List.length_map, htk, Ff, go_sem];refine Aa (Aap (l := C3 l (l.take k)) (Da l e) rfl rfl (by omega)) ?_;simp (disch := omega) only [go_sem];refine ⟨k + 1, by omega, by omega, D3 40 rfl (D2 99 40 (by decide) rfl (Ak ?_ ?_))⟩
       · simp (disch := omega) only [go_sem]
       · simp (disch := omega) only [hsn, go_sem]
   · have hoi : Ey e = Az e := if_pos h7;have n1 : ¬ e.kind = 1 := by omega
     have n2 : ¬ e.kind = 2 := by omega
     simp (disch := omega) only [X9, List.length_map, he, Bf, hel, Af, n1, n2, h7, Aq, Dl, Dp, A8, go_sem];refine A1 Ag (Ej f l k e) (fun j => j ≤ l.length) (fun j => l.length - j) 0 (by simp) (Ak ?_ ?_) fun j hj => ?_
     · simp (disch := omega) only [go_sem]
     · simp (disch := omega) only [Da, byG, List.take_zero, List.foldl_nil, hoi, go_sem];exact Hi rfl (Dr _)
     by_cases hjl : j < l.length
     · have hx2 : l[j]? = some l[j] := List.getElem?_eq_getElem hjl;have he2 : (l.map A9)[j]? = some (A9 l[j]) := by rw [List.getElem?_map, hx2]; rfl
       have ht2 := C0 hx2;have hevj := hev _ (List.getElem_mem hjl);generalize l[j] = g at *;have hB : Da (l.take (j + 1)) e = if Hv g (Ey e) (Ah e) = true then { Da (l.take j) e with gone := Ba (Da (l.take j) e).gone g.rep g.seq } else Da (l.take j) e := by
        unfold Da; rw [ht2, Rc]; split <;> rfl
       have hob : (Da (l.take j) e).obj = Ey e := rfl;have hid : (Da (l.take j) e).id = Ah e := rfl;generalize hX : Da (l.take j) e = X at *;by_cases hg : g.kind = 6 ∨ g.kind = 7;rotate_left
       · have g6 : ¬ g.kind = 6 := fun q => hg (.inl q);have g7 : ¬ g.kind = 7 := fun q => hg (.inr q);have hgo : ¬ Hv g (Ey e) (Ah e) = true := by unfold Hv; simp [hg]
         rw [if_neg hgo] at hB;simp (disch := omega) only [Ej, hX, List.length_map, he2, Af, g6, g7, go_sem];refine Ad (j + 1) _ _ rfl (by omega) (by omega) ?_ ?_
         · simp (disch := omega) only [go_sem]
         · simp (disch := omega) only [hB, go_sem]
       have hg' := hg;rcases hg with hg6 | hg7
       · skip
         by_cases ho : Az g = X.obj;rotate_left
         · have hp := Fe ho;have hgo : ¬ Hv g (Ey e) (Ah e) = true := by
            rw [hob] at ho; unfold Hv; simp [ho]
           rw [if_neg hgo] at hB;simp (disch := omega) only [Ej, hX, List.length_map, he2, Af, hg6, A8, C7, Ae, Bp, hp, go_sem];refine Ad (j + 1) _ _ rfl (by omega) (by omega) ?_ ?_
           · simp (disch := omega) only [go_sem]
           · simp (disch := omega) only [hB, go_sem]
         have hp := Fd ho;have hpv : g.gone.pv = .sl g.gone.f g.gone.z (g.gone.l.map Eb) := rfl;simp (disch := omega) only [Ej, hX, List.length_map, he2, Af, hg6, A8, C7, Ae, Bp, hp, Ga, Dm, go_sem];refine Aa (Pc g.gone X.id hevj.1 hevj.2.2.1) ?_;by_cases hin : X.id ∈ g.gone.l
         · have hgo : Hv g (Ey e) (Ah e) = true := by
            rw [hob] at ho; rw [hid] at hin; unfold Hv; simp [hg', ho, hin]
           rw [if_pos hgo] at hB;have hsp := G3 X (Ba X.gone g.rep g.seq);have hvl := Bi (Ba X.gone g.rep g.seq);simp (disch := omega) only [hin, Ii, List.length_map, he2, Aq, go_sem];refine Aa (E8 _ _ _) ?_;simp (disch := omega) only [hsp, hvl, go_sem];refine Ad (j + 1) _ _ rfl (by omega) (by omega) ?_ ?_
           · simp (disch := omega) only [go_sem]
           · simp (disch := omega) only [hB, go_sem]
         · have hgo : ¬ Hv g (Ey e) (Ah e) = true := by
            rw [hid] at hin; unfold Hv; simp [hin]
           rw [if_neg hgo] at hB;simp (disch := omega) only [hin, go_sem];refine Ad (j + 1) _ _ rfl (by omega) (by omega) ?_ ?_
           · simp (disch := omega) only [go_sem]
           · simp (disch := omega) only [hB, go_sem]
       · have g6 : ¬ g.kind = 6 := by omega
         by_cases ho : Az g = X.obj;rotate_left
         · have hp := Fe ho;have hgo : ¬ Hv g (Ey e) (Ah e) = true := by
            rw [hob] at ho; unfold Hv; simp [ho]
           rw [if_neg hgo] at hB;simp (disch := omega) only [Ej, hX, List.length_map, he2, Af, g6, hg7, A8, C7, Ae, Bp, hp, go_sem];refine Ad (j + 1) _ _ rfl (by omega) (by omega) ?_ ?_
           · simp (disch := omega) only [go_sem]
           · simp (disch := omega) only [hB, go_sem]
         have hp := Fd ho;have hpv : g.gone.pv = .sl g.gone.f g.gone.z (g.gone.l.map Eb) := rfl;simp (disch := omega) only [Ej, hX, List.length_map, he2, Af, g6, hg7, A8, C7, Ae, Bp, hp, Ga, Dm, go_sem];refine Aa (Pc g.gone X.id hevj.1 hevj.2.2.1) ?_;by_cases hin : X.id ∈ g.gone.l
         · have hgo : Hv g (Ey e) (Ah e) = true := by
            rw [hob] at ho; rw [hid] at hin; unfold Hv; simp [hg', ho, hin]
           rw [if_pos hgo] at hB;have hsp := G3 X (Ba X.gone g.rep g.seq);have hvl := Bi (Ba X.gone g.rep g.seq);simp (disch := omega) only [hin, Ii, List.length_map, he2, Aq, go_sem];refine Aa (E8 _ _ _) ?_;simp (disch := omega) only [hsp, hvl, go_sem];refine Ad (j + 1) _ _ rfl (by omega) (by omega) ?_ ?_
           · simp (disch := omega) only [go_sem]
           · simp (disch := omega) only [hB, go_sem]
         · have hgo : ¬ Hv g (Ey e) (Ah e) = true := by
            rw [hid] at hin; unfold Hv; simp [hin]
           rw [if_neg hgo] at hB;simp (disch := omega) only [hin, go_sem];refine Ad (j + 1) _ _ rfl (by omega) (by omega) ?_ ?_
           · simp (disch := omega) only [go_sem]
           · simp (disch := omega) only [hB, go_sem]
     · obtain rfl : j = l.length := by omega
       have htk : l.take l.length = l := List.take_length;simp (disch := omega) only [Ej, List.length_map, htk, Ff, go_sem];refine Aa (Aap (l := C3 l (l.take k)) (Da l e) rfl rfl (by omega)) ?_;simp (disch := omega) only [go_sem];refine ⟨k + 1, by omega, by omega, D3 40 rfl (D2 99 40 (by decide) rfl (Ak ?_ ?_))⟩
       · simp (disch := omega) only [go_sem]
       · simp (disch := omega) only [hsn, go_sem]
 · obtain rfl : k = l.length := by omega
   have htk : l.take l.length = l := List.take_length;simp (disch := omega) only [X9, List.length_map, htk, go_sem]
theorem A1t {x y : SV} {f g : Bool} {l : List Ver} {bs : List Bq} {v : Ver} {h d} (hx : Cn h [x, y, .vec 11 (Bc v)] = [.pv (.sl f 11 (l.map Bc)), .pv (.sl g 2 (bs.map Eb)), .vec 11 (Bc v)]) (hl : Be [x, y, .vec 11 (Bc v)] = true)
 (hs : Cv l) (hn : l.length ≤ 900) (hbn : bs.length ≤ 900) (hm : ¬ Di l bs) (ho : Bs l v.rep v.seq = none) :
 FunOk Tryz.prog 134 [x, y, .vec 11 (Bc v)] h d (.tup [.os d, .pv (.i .i64 0)]) [.new d (.row 11 ((Fo l bs v).map Bc))] := by
 refine Ar1 Ag fn134 (by simp) hl (.inr (X7 _)) rfl fun F => ?_;rw [hx];exact At4 hs hn hbn (fun h => absurd h hm) (fun _ h => by rw [ho] at h; cases h) (fun _ _ g n hg => ⟨n, rfl, hg⟩)
def O1 (e : Evt) : Bool := decide (e.kind = 3 ∨ e.kind = 4 ∨ e.kind = 5)
def Y3 (g : Evt) (obj id : Bq) : Bool := O1 g && (decide (Az g = obj) && decide (id ∈ g.base.l))
def gvG (l : List Evt) (obj id : Bq) : Vc := l.foldl (fun a g => if Y3 g obj id = true then Ba a g.rep g.seq else a) fun _ => 0
theorem Ad6 (l : List Evt) (g : Evt) (obj id : Bq) : gvG (l ++ [g]) obj id = if Y3 g obj id = true then Ba (gvG l obj id) g.rep g.seq else gvG l obj id := by simp [gvG]
noncomputable def Gw (l m : List Evt) (e : Evt) : Ver := ⟨e.rep, e.seq, De l l.length (Ah e), gvG m (Az e) (Ah e)⟩
noncomputable def Cy (l : List Evt) (obj : Bq) (m : List Evt) : List Ver := m.foldl (fun out e => if O1 e = true ∧ Az e = obj then Fo out [] (Gw l l e) else out) []
theorem O3 (l : List Evt) (obj : Bq) (m : List Evt) (e : Evt) : Cy l obj (m ++ [e]) = if O1 e = true ∧ Az e = obj then Fo (Cy l obj m) [] (Gw l l e) else Cy l obj m := by simp [Cy]
theorem Aky {l : List Ver} {v x : Ver} : x ∈ Fo l [] v ↔ x = v ∨ x ∈ l := by
 unfold Fo; rw [N0];simp only [List.mem_append, List.mem_cons];have : x ∈ l ↔ x ∈ l.take (Pu l v.rep v.seq 0).1 ∨ x ∈ l.drop (Pu l v.rep v.seq 0).1 := by
  rw [← List.mem_append, List.take_append_drop]
 rw [this];constructor
 · rintro (h | h | h)
   · exact .inr (.inl h)
   · exact .inl h
   · exact .inr (.inr h)
 · rintro (h | h | h)
   · exact .inr (.inl h)
   · exact .inl h
   · exact .inr (.inr h)
theorem Am7 (l : List Ver) (v : Ver) : (Fo l [] v).length = l.length + 1 := by
 unfold Fo; rw [N0];simp only [List.length_append, List.length_take, List.length_cons, List.length_drop]; omega
theorem Abx {l : List Ver} {v : Ver} (hs : Cv l) (hn : Bs l v.rep v.seq = none) : Cv (Fo l [] v) := by
 unfold Fo; rw [N0];have hfalse : Pu l v.rep v.seq 0 = ((Pu l v.rep v.seq 0).1, false) := by
  rcases h : Pu l v.rep v.seq 0 with ⟨i, b⟩
  cases b with
  | false => rfl
  | true =>
    obtain ⟨_, u, _, _, h4⟩ := Ip h;rw [hn] at h4; cases h4
 obtain ⟨_, _, _, _, h5, h6⟩ := H4 hs hfalse;generalize (Pu l v.rep v.seq 0).1 = p at *;simp only [Nat.sub_zero] at h5 h6;refine List.pairwise_append.2 ⟨hs.sublist (List.take_sublist _ _), List.pairwise_cons.2 ⟨fun u hu => h6 u hu, hs.sublist (List.drop_sublist _ _)⟩, fun a ha b hb => ?_⟩;rcases List.mem_cons.1 hb with rfl | hb
 · exact h5 a ha
 · have := h5 a ha;exact Pl this (h6 b hb)
theorem Np {l : List Evt} {obj : Bq} {v : Ver} : ∀ (n : Nat) (m : List Evt), m.length = n → (v ∈ Cy l obj m ↔ ∃ e ∈ m, (O1 e = true ∧ Az e = obj) ∧ v = Gw l l e)
 | 0, m, h => by obtain rfl := List.eq_nil_of_length_eq_zero h; simp [Cy]
 | n + 1, m, h => by
   have hne : m ≠ [] := fun e => by subst e; simp at h
   have e1 := (List.dropLast_concat_getLast hne).symm;have ih := Np (l := l) (obj := obj) (v := v) n m.dropLast (by simp [h]);rw [e1, O3];generalize m.getLast hne = e at *;generalize m.dropLast = m' at *;split
   · rename_i hc;rw [Aky, ih];constructor
     · rintro (rfl | ⟨f, h1, h2⟩)
       · exact ⟨e, by simp, hc, rfl⟩
       · exact ⟨f, by simp [h1], h2⟩
     · rintro ⟨f, h1, h2, h3⟩;rcases List.mem_append.1 h1 with h1 | h1
       · exact .inr ⟨f, h1, h2, h3⟩
       · rw [List.mem_singleton] at h1; subst h1; exact .inl h3
   · rename_i hc;rw [ih];constructor
     · rintro ⟨f, h1, h2⟩; exact ⟨f, by simp [h1], h2⟩
     · rintro ⟨f, h1, h2, h3⟩;rcases List.mem_append.1 h1 with h1 | h1
       · exact ⟨f, h1, h2, h3⟩
       · rw [List.mem_singleton] at h1; subst h1; exact absurd h2 hc
def NodE (l : List Evt) : Prop := (l.map Ah).Nodup
theorem X6 {l m : List Evt} {obj : Bq} {e : Evt} (hn : NodE (m ++ [e])) : Bs (Cy l obj m) e.rep e.seq = none := by
 rw [Pm];intro v hv ⟨h1, h2⟩;obtain ⟨f, hf, _, rfl⟩ := (Np m.length m rfl).1 hv;have : Ah f = Ah e := Prod.ext h1 h2;unfold NodE at hn;rw [List.map_append, List.nodup_append] at hn;exact hn.2.2 (Ah f) (List.mem_map_of_mem hf) (Ah e) (by simp) this
theorem NodE.take {l : List Evt} (h : NodE l) (k : Nat) : NodE (l.take k) := by
 unfold NodE at *; rw [List.map_take]; exact h.sublist (List.take_sublist _ _)
theorem I5 {l : List Evt} {obj : Bq} : ∀ (n : Nat) (m : List Evt), m.length = n → NodE m → Cv (Cy l obj m) ∧ (Cy l obj m).length ≤ n
 | 0, m, h, _ => by obtain rfl := List.eq_nil_of_length_eq_zero h; exact ⟨List.Pairwise.nil, by simp [Cy]⟩
 | n + 1, m, h, hn => by
   have hne : m ≠ [] := fun e => by subst e; simp at h
   have e1 := (List.dropLast_concat_getLast hne).symm;have hn' : NodE m.dropLast := by unfold NodE at *; rw [List.map_dropLast]; exact hn.sublist (List.dropLast_sublist _)
   obtain ⟨h1, h2⟩ := I5 (l := l) (obj := obj) n m.dropLast (by simp [h]) hn';rw [e1] at hn ⊢;rw [O3];split
   · exact ⟨Abx h1 (X6 hn), by rw [Am7]; omega⟩
   · exact ⟨h1, by omega⟩
theorem Av2 {l : List Ver} {v : Ver} (hs : Cv l) (hn : l.length ≤ 900) (ho : Bs l v.rep v.seq = none) {h d} (hh : h 40 = some (.row 11 (l.map Bc))) :
 FunOk Tryz.prog 134 [.os 40, .pv (.sl true 0 []), .vec 11 (Bc v)] h d (.tup [.os d, .pv (.i .i64 0)]) [.new d (.row 11 ((Fo l [] v).map Bc))] := by
 refine FunOk.imp (args' := [.os 40, .pv (.sl true 2 []), .vec 11 (Bc v)]) ?_ ⟨Imp.refl _, Sv (He id (.inl rfl) (.refl _)), Imp.refl _, trivial⟩ (by simp [A6, tn]);exact A1t (f := false) (g := true) (l := l) (bs := []) (by simp only [Cn, K3, hh]; rfl) rfl hs hn (by simp) (fun ⟨b, hb, _⟩ => by simp at hb) ho
structure EvsOk (l : List Evt) (rk : Evt → Nat) : Prop where
 len : l.length ≤ 400
 nod : NodE l
 ev : ∀ e ∈ l, ev e ∧ e.data.length ≤ 1000
 grd : Grd l rk
 rk : ∀ e ∈ l, rk e < l.length
noncomputable def An1 (f : Bool) (l : List Evt) (o : Bq) (k : Nat) : FS := mk [(6, .pv (.i .i64 k)), (5, .os 40), (0, .pv (.sl f 21 (l.map A9))), (3, .p 3 0)] [(3, some (.var (.vec 2 [.i .i64 o.1, .i .u32 o.2]))), (40, some (.row 11 ((Cy l o (l.take k)).map Bc)))]
noncomputable def Ack (f : Bool) (l : List Evt) (o : Bq) (k : Nat) (e : Evt) (j : Nat) : FS := mk [(8, .pv (.i .i64 j)), (6, .pv (.i .i64 k)), (5, .os 40), (7, .p 7 0), (0, .pv (.sl f 21 (l.map A9))), (3, .p 3 0)] [(7, some (.var (.vec 11 (Bc (Gw l (l.take j) e))))), (3, some (.var (.vec 2 [.i .i64 o.1, .i .u32 o.2]))), (40, some (.row 11 ((Cy l o (l.take k)).map Bc)))]
theorem Anq (r : Int) (q : Nat) (s : List UInt8) (g : Vc) : Imp (.agg [.vec 2 [.i .i64 r, .i .u32 q], .pv (.s s), .vec 8 (vE g)]) (.vec 11 (Bc ⟨r, q, s, g⟩)) := Hi (by rfl) (Hb _)
set_option maxHeartbeats 8000000 in
theorem Wb {x : SV} {f : Bool} {l : List Evt} {rk : Evt → Nat} (o : Bq) {h d} (hx : Cn h [x, .vec 2 [.i .i64 o.1, .i .u32 o.2]] = [.pv (.sl f 21 (l.map A9)), .vec 2 [.i .i64 o.1, .i .u32 o.2]]) (hl : Be [x, .vec 2 [.i .i64 o.1, .i .u32 o.2]] = true) (hE : EvsOk l rk) : FunOk Tryz.prog 101 [x, .vec 2 [.i .i64 o.1, .i .u32 o.2]] h d (.pv (.sl false 11 ((Cy l o l).map Bc))) [] := by
 refine Y6 Ag fn101 (by simp) hl (X7 _) fun F => ?_;rw [hx];have hn := hE.len;simp (disch := omega) only [ir101, go_sem];refine A1 Ag (An1 f l o) (fun k => k ≤ l.length) (fun k => l.length - k) 0 (by simp) (Rr 5 40 11 rfl (by omega) (Ak ?_ ?_)) fun k hk => ?_
 · simp (disch := omega) only [go_sem]
 · simp (disch := omega) only [Cy, List.take_zero, List.foldl_nil, List.map_nil, go_sem]
 by_cases hlt : k < l.length
 · have hx : l[k]? = some l[k] := List.getElem?_eq_getElem hlt;have he : (l.map A9)[k]? = some (A9 l[k]) := by rw [List.getElem?_map, hx]; rfl
   have ht := C0 hx;have hsn := O3 l o (l.take k) l[k];have hnd := hE.nod.take (k + 1);rw [ht] at hnd;rw [← ht] at hsn;have hmem := List.getElem_mem hlt;generalize l[k] = e at *;obtain ⟨hso, hle⟩ := I5 (l := l) (obj := o) _ (l.take k) rfl (hE.nod.take k);have hle' : (l.take k).length ≤ 400 := by simp; omega
   have hnew := X6 (l := l) (obj := o) hnd;have hwb : O1 e = decide (e.kind = 3 ∨ e.kind = 4 ∨ e.kind = 5) := rfl;by_cases hw : O1 e = true;rotate_left
   · rw [if_neg (fun q => hw q.1)] at hsn;have hw' : O1 e = false := by simpa using hw
     simp (disch := omega) only [An1, List.length_map, he, Bf, go_sem];refine Aa (Kx e) ?_;rw [← hwb, hw'];simp (disch := omega) only [go_sem];refine Ad (k + 1) _ _ rfl (by omega) (by omega) ?_ ?_
     · simp (disch := omega) only [go_sem]
     · simp (disch := omega) only [hsn, go_sem]
   by_cases ho : Az e = o;rotate_left
   · rw [if_neg (fun q => ho q.2)] at hsn;have hp := Fe ho;simp (disch := omega) only [An1, List.length_map, he, Bf, go_sem];refine Aa (Kx e) ?_;rw [← hwb, hw];simp (disch := omega) only [he, A8, Ae, Bp, hp, List.length_map, go_sem];refine Ad (k + 1) _ _ rfl (by omega) (by omega) ?_ ?_
     · simp (disch := omega) only [go_sem]
     · simp (disch := omega) only [hsn, go_sem]
   rw [if_pos ⟨hw, ho⟩] at hsn;have hp := Fd ho;simp (disch := omega) only [An1, List.length_map, he, Bf, go_sem];refine Aa (Kx e) ?_;rw [← hwb, hw];simp (disch := omega) only [he, A8, Ae, Bp, hp, List.length_map, Aq, go_sem];refine Aa (Adf (rk := rk) hE.grd (by omega) hE.ev l.length (Ah e) (fun e' he' => hE.rk e' (List.mem_of_find?_eq_some he')) _ f _ _ rfl rfl) ?_;simp (disch := omega) only [go_sem];refine A1 Ag (Ack f l o k e) (fun j => j ≤ l.length) (fun j => l.length - j) 0 (by simp) (Ak ?_ ?_) fun j hj => ?_
   · simp (disch := omega) only [go_sem]
   · simp (disch := omega) only [Gw, gvG, List.take_zero, List.foldl_nil, go_sem];exact Anq _ _ _ _
   by_cases hjl : j < l.length
   · have hx2 : l[j]? = some l[j] := List.getElem?_eq_getElem hjl;have he2 : (l.map A9)[j]? = some (A9 l[j]) := by rw [List.getElem?_map, hx2]; rfl
     have ht2 := C0 hx2;have hevj := (hE.ev _ (List.getElem_mem hjl)).1;generalize l[j] = g at *;have hB : Gw l (l.take (j + 1)) e = if Y3 g (Az e) (Ah e) = true then { Gw l (l.take j) e with gone := Ba (Gw l (l.take j) e).gone g.rep g.seq } else Gw l (l.take j) e := by
      unfold Gw; rw [ht2, Ad6]; split <;> rfl
     have hid : ((Gw l (l.take j) e).rep, (Gw l (l.take j) e).seq) = Ah e := rfl;generalize hX : Gw l (l.take j) e = X at *;have hwg : O1 g = decide (g.kind = 3 ∨ g.kind = 4 ∨ g.kind = 5) := rfl;by_cases hg : O1 g = true;rotate_left
     · have hgo : ¬ Y3 g (Az e) (Ah e) = true := by unfold Y3; simp [hg]
       have hg' : O1 g = false := by simpa using hg
       rw [if_neg hgo] at hB;simp (disch := omega) only [Ack, hX, List.length_map, he2, Bf, go_sem];refine Aa (Kx g) ?_;rw [← hwg, hg'];simp (disch := omega) only [go_sem];refine Ad (j + 1) _ _ rfl (by omega) (by omega) ?_ ?_
       · simp (disch := omega) only [go_sem]
       · simp (disch := omega) only [hB, go_sem]
     by_cases hog : Az g = o;rotate_left
     · have hp2 := Fe hog;have hgo : ¬ Y3 g (Az e) (Ah e) = true := by rw [← ho] at hog; unfold Y3; simp [hog]
       rw [if_neg hgo] at hB;simp (disch := omega) only [Ack, hX, List.length_map, he2, Bf, go_sem];refine Aa (Kx g) ?_;rw [← hwg, hg];simp (disch := omega) only [List.length_map, he2, A8, Ae, Bp, hp2, go_sem];refine Ad (j + 1) _ _ rfl (by omega) (by omega) ?_ ?_
       · simp (disch := omega) only [go_sem]
       · simp (disch := omega) only [hB, go_sem]
     have hp2 := Fd hog;have hpv : g.base.pv = .sl g.base.f g.base.z (g.base.l.map Eb) := rfl;simp (disch := omega) only [Ack, hX, List.length_map, he2, Bf, go_sem];refine Aa (Kx g) ?_;rw [← hwg, hg];simp (disch := omega) only [List.length_map, he2, A8, Ae, Bp, hp2, Fk, C2, go_sem];refine Aa (Pc g.base (X.rep, X.seq) hevj.2.1 hevj.2.2.2.1) ?_;by_cases hin : (X.rep, X.seq) ∈ g.base.l
     · have hgo : Y3 g (Az e) (Ah e) = true := by
        rw [hid] at hin; unfold Y3; simp [hg, hog, ho, hin]
       rw [if_pos hgo] at hB;have hsp := Jk X (Ba X.gone g.rep g.seq);have hvl := Bi (Ba X.gone g.rep g.seq);simp (disch := omega) only [hin, M3, List.length_map, he2, Aq, go_sem];refine Aa (E8 _ _ _) ?_;simp (disch := omega) only [hsp, hvl, go_sem];refine Ad (j + 1) _ _ rfl (by omega) (by omega) ?_ ?_
       · simp (disch := omega) only [go_sem]
       · simp (disch := omega) only [hB, go_sem]
     · have hgo : ¬ Y3 g (Az e) (Ah e) = true := by
        rw [hid] at hin; unfold Y3; simp [hin]
       rw [if_neg hgo] at hB;simp (disch := omega) only [hin, go_sem];refine Ad (j + 1) _ _ rfl (by omega) (by omega) ?_ ?_
       · simp (disch := omega) only [go_sem]
       · simp (disch := omega) only [hB, go_sem]
   · obtain rfl : j = l.length := by omega
     have htk : l.take l.length = l := List.take_length;simp (disch := omega) only [Ack, List.length_map, htk, Km, go_sem];refine Aa (Av2 (l := Cy l o (l.take k)) (v := Gw l l e) hso (by omega) hnew rfl) ?_;simp (disch := omega) only [go_sem];refine ⟨k + 1, by omega, by omega, D3 40 rfl (D2 85 40 (by decide) rfl (Ak ?_ ?_))⟩
     · simp (disch := omega) only [go_sem]
     · simp (disch := omega) only [hsn, go_sem]
 · obtain rfl : k = l.length := by omega
   have htk : l.take l.length = l := List.take_length;simp (disch := omega) only [An1, List.length_map, htk, go_sem]
mutual
theorem Acy {π : Nat → Nat} : ∀ {x : SV}, x.closed = true → x.rn π = x
 | .pv _, _ => rfl
 | .vec _ _, _ => rfl
 | .pi _ _ _ _, _ => rfl
 | .dead, _ => rfl
 | .agg l, h => by simp only [SV.closed] at h; simp only [SV.rn, R6 h]
 | .tup l, h => by simp only [SV.closed] at h; simp only [SV.rn, R6 h]
 | .fn f l, h => by simp only [SV.closed] at h; simp only [SV.rn, R6 h]
 | .p _ _, h => by simp [SV.closed] at h
 | .ps _ _, h => by simp [SV.closed] at h
 | .pr _ _ _ _, h => by simp [SV.closed] at h
 | .os _, h => by simp [SV.closed] at h
 | .ov _ _ _ _, h => by simp [SV.closed] at h
theorem R6 {π : Nat → Nat} : ∀ {l : List SV}, SV.closedL l = true → SV.rnL π l = l
 | [], _ => rfl
 | x :: l, h => by
   simp only [SV.closedL, Bool.and_eq_true] at h;simp only [SV.rnL, Acy h.1, R6 h.2]
end
mutual
theorem A48 : ∀ {x : SV}, x.closed = true → tn x = []
 | .pv _, _ => rfl
 | .vec _ _, _ => rfl
 | .pi _ _ _ _, _ => rfl
 | .dead, _ => rfl
 | .agg l, h => by simp only [SV.closed] at h; simp only [tn, Nt h]
 | .tup l, h => by simp only [SV.closed] at h; simp only [tn, Nt h]
 | .fn f l, h => by simp only [SV.closed] at h; simp only [tn, Nt h]
 | .p _ _, h => by simp [SV.closed] at h
 | .ps _ _, h => by simp [SV.closed] at h
 | .pr _ _ _ _, h => by simp [SV.closed] at h
 | .os _, h => by simp [SV.closed] at h
 | .ov _ _ _ _, h => by simp [SV.closed] at h
theorem Nt : ∀ {l : List SV}, SV.closedL l = true → A6 l = []
 | [], _ => rfl
 | x :: l, h => by
   simp only [SV.closedL, Bool.and_eq_true] at h;simp only [A6, A48 h.1, Nt h.2, List.append_nil]
end
theorem Ahz (a m : Nat) : sw1 a m a = m := if_pos rfl
theorem FunOk.io {P : Program} {f : Nat} {a : List SV} {c c' x : SV} (hf : ∀ h d, h 900 = some (.var c) → FunOk P f (.p 900 0 :: a) h d x [.upd 900 (.var c')]) (ha : SV.closedL a = true) (hx : x.closed = true) (hc : c.closed = true) (hc' : c'.closed = true) {g : Nat} {h : Nat → Option Blk} {d : Nat} (hg : h g = some (.var c)) :
 FunOk P f (.p g 0 :: a) h d x [.upd g (.var c')] := by
 have h1 := (hf (fun k => h (sw1 900 g k)) d (by show h (sw1 900 g 900) = _; rw [Ahz]; exact hg)).rn (π := sw1 900 g) (Ub 900 g) (d' := d);simp only [SV.rnL, SV.rn, HU.rn, Blk.rn, List.map_cons, List.map_nil, Ahz, R6 ha, Acy hx, Acy hc'] at h1;refine h1.at fun n hn => ?_;simp only [A6, tn, Nt ha, List.append_nil, List.mem_singleton] at hn;subst hn;simp only [Ub, hg, Option.map_some, Blk.rn, Acy hc]
theorem FunOk.quiet {P : Program} {f : Nat} {args : List SV} {h : Nat → Option Blk} {d g : Nat} {x : SV} {blk : Blk} (hf : FunOk P f args h d x [.upd g blk]) (hg : h g = some blk) (hin : g ∈ A6 args) : FunOk P f args h d x [] :=
 ⟨hf.1, fun F N ρ s a w hR hh vs hc => by
  have hs : s.h g = some blk := (hh g hin).trans hg;have e : s.hup [.upd g blk] = s := FS.ext' (fun _ => rfl) fun n => by
   simp only [FS.hup, FS.seth];split
   · rename_i e; rw [e]; exact hs.symm
   · rfl
  have := hf.2 F N ρ s a w hR hh vs hc;rw [e] at this;exact this⟩
theorem FunOk.ioRow {P : Program} {f : Nat} {a : List SV} {sz : Nat} {es : List (List PV)} {x : SV} (hf : ∀ h d, h 900 = some (.row sz es) → FunOk P f (.os 900 :: a) h d x [.upd 900 (.row sz es)]) (ha : SV.closedL a = true) (hx : x.closed = true) {g : Nat} {h : Nat → Option Blk} {d : Nat} (hg : h g = some (.row sz es)) :
 FunOk P f (.os g :: a) h d x [] := by
 have h1 := (hf (fun k => h (sw1 900 g k)) d (by show h (sw1 900 g 900) = _; rw [Ahz]; exact hg)).rn (π := sw1 900 g) (Ub 900 g) (d' := d);simp only [SV.rnL, SV.rn, HU.rn, Blk.rn, List.map_cons, List.map_nil, Ahz, R6 ha, Acy hx] at h1;refine FunOk.quiet (g := g) (blk := .row sz es) (h1.at fun n hn => ?_) hg (by simp [A6, tn]);simp only [A6, tn, Nt ha, List.append_nil, List.mem_singleton] at hn;subst hn;simp only [Ub, hg, Option.map_some, Blk.rn]
def D4 (e : Evt) (o : Obj) (f : Evt) : Obj :=
 if Az f = Ah e then
  if f.kind = 7 then (if Cm o.last.1 o.last.2 f.rep f.seq = true then { o with last := Ah f, name := f.name } else o)
  else if f.kind = 6 then { o with seen := Cz o.seen (Ba f.dep f.rep f.seq) } else o
 else o
noncomputable def C8 (l m : List Evt) (e : Evt) : Obj := m.foldl (D4 e) ⟨Ah e, decide (e.kind = 2), Ah e, e.name, fun _ => 0, Cy l (Ah e) l⟩
theorem Jg (l m : List Evt) (e f : Evt) : C8 l (m ++ [f]) e = D4 e (C8 l m e) f := by simp [C8]
def Gg : SV := .agg [.pv (.i .i64 0), .pv (.i .u32 0), .pv (.b false), .pv (.i .i64 0), .pv (.i .u32 0), .pv (.s []), .vec 8 (vE fun _ => 0), .pv (.sl true 0 [])]
theorem Aiq (o : Obj) : Imp (.agg [.vec 2 [.i .i64 o.id.1, .i .u32 o.id.2], .pv (.b o.dir), .vec 2 [.i .i64 o.last.1, .i .u32 o.last.2], .pv (.s o.name), .vec 8 (vE o.seen), .pv (.sl false 11 (o.vers.map Bc))]) (.vec 15 (Ar o)) := Hi (by rfl) (Et _)
noncomputable def Vo (f : Bool) (l : List Evt) (e : Evt) (k : Nat) : FS := mk [(6, .pv (.i .i64 k)), (0, .pv (.sl f 21 (l.map A9))), (3, .p 3 0), (4, .p 4 0), (5, .p 5 0)] [(3, some (.var (.vec 21 (A9 e)))), (4, some (.var Gg)), (5, some (.var (.vec 15 (Ar (C8 l (l.take k) e)))))]
noncomputable def Vn (f : Bool) (l : List Evt) (e : Evt) (k : Nat) : FS := mk [(6, .pv (.i .i64 k)), (0, .os 900), (3, .p 3 0), (4, .p 4 0), (5, .p 5 0), (1000000, .os 900)] [(3, some (.var (.vec 21 (A9 e)))), (4, some (.var Gg)), (5, some (.var (.vec 15 (Ar (C8 l (l.take k) e))))), (900, some (.row 21 (l.map A9)))]
set_option maxHeartbeats 8000000 in
theorem Ym {f : Bool} {l : List Evt} {rk : Evt → Nat} (e : Evt) {h d} (hE : EvsOk l rk) : FunOk Tryz.prog 60 [.pv (.sl f 21 (l.map A9)), .vec 21 (A9 e)] h d (.vec 15 (Ar (C8 l l e))) [] := by
 refine Ap Ag fn60 (by simp) rfl rfl fun F => ?_;have hn := hE.len;simp (disch := omega) only [ir60, Aq, Af, Dp, Blk.ptr, go_sem];refine Aa (Wb (rk := rk) (l := l) (Ah e) rfl rfl hE) ?_;simp (disch := omega) only [go_sem];refine A1 Ag (Vo f l e) (fun k => k ≤ l.length) (fun k => l.length - k) 0 (by simp) (Ak ?_ ?_) fun k hk => ?_
 · simp (disch := omega) only [go_sem]
 · simp (disch := omega) only [C8, List.take_zero, List.foldl_nil, Gg, go_sem];exact Aiq ⟨Ah e, decide (e.kind = 2), Ah e, e.name, fun _ => 0, Cy l (Ah e) l⟩
 by_cases hlt : k < l.length
 · have hx : l[k]? = some l[k] := List.getElem?_eq_getElem hlt;have he : (l.map A9)[k]? = some (A9 l[k]) := by rw [List.getElem?_map, hx]; rfl
   have ht := C0 hx;have hsn := Jg l (l.take k) e l[k];rw [← ht] at hsn;generalize l[k] = g at *;generalize hX : C8 l (l.take k) e = X at *;by_cases ho : Az g = Ah e;rotate_left
   · have hp := Fe ho;have hs : D4 e X g = X := if_neg ho;rw [hs] at hsn;simp (disch := omega) only [Vo, hX, List.length_map, he, A8, Aq, Ae, Bp, hp, go_sem];refine Ad (k + 1) _ _ rfl (by omega) (by omega) ?_ ?_
     · simp (disch := omega) only [go_sem]
     · simp (disch := omega) only [hsn, Gg, go_sem]
   have hp := Fd ho;by_cases h7 : g.kind = 7
   · by_cases hl7 : Cm X.last.1 X.last.2 g.rep g.seq = true
     · have hs : D4 e X g = { X with last := Ah g, name := g.name } := by unfold D4; rw [if_pos ho, if_pos h7, if_pos hl7]
       rw [hs] at hsn;have hsp := Vs X (Ah g);have hsp2 := Vr { X with last := Ah g } g.name;simp (disch := omega) only [Vo, hX, List.length_map, he, A8, Aq, Ae, Bp, hp, Af, h7, Hz, go_sem];refine Aa (F8 X.last.1 X.last.2 g.rep g.seq) ?_;simp (disch := omega) only [hl7, go_sem];refine Re ?_;simp (disch := omega) only [List.length_map, he, Aq, Dp, hsp, hsp2, Af, h7, go_sem];refine Ad (k + 1) _ _ rfl (by omega) (by omega) ?_ ?_
       · simp (disch := omega) only [go_sem]
       · simp (disch := omega) only [hsn, Gg, go_sem]
     · have hs : D4 e X g = X := by unfold D4; rw [if_pos ho, if_pos h7, if_neg hl7]
       rw [hs] at hsn;have hl7' : Cm X.last.1 X.last.2 g.rep g.seq = false := by simpa using hl7
       simp (disch := omega) only [Vo, hX, List.length_map, he, A8, Aq, Ae, Bp, hp, Af, h7, Hz, go_sem];refine Aa (F8 X.last.1 X.last.2 g.rep g.seq) ?_;simp (disch := omega) only [hl7', List.length_map, he, Af, h7, go_sem];refine Ad (k + 1) _ _ rfl (by omega) (by omega) ?_ ?_
       · simp (disch := omega) only [go_sem]
       · simp (disch := omega) only [hsn, Gg, go_sem]
   by_cases h6 : g.kind = 6
   · have hs : D4 e X g = { X with seen := Cz X.seen (Ba g.dep g.rep g.seq) } := by unfold D4; rw [if_pos ho, if_neg h7, if_pos h6]
     rw [hs] at hsn;have hsp := Vq X (Cz X.seen (Ba g.dep g.rep g.seq));have hvl := Bi (Cz X.seen (Ba g.dep g.rep g.seq));simp (disch := omega) only [Vo, hX, List.length_map, he, A8, Aq, Ae, Bp, hp, Af, h7, h6, Lu, Fb, go_sem];refine Aa (E8 _ _ _) ?_;simp (disch := omega) only [go_sem];refine Aa (Uj _ _) ?_;simp (disch := omega) only [hsp, hvl, go_sem];refine Ad (k + 1) _ _ rfl (by omega) (by omega) ?_ ?_
     · simp (disch := omega) only [go_sem]
     · simp (disch := omega) only [hsn, Gg, go_sem]
   · have hs : D4 e X g = X := by unfold D4; rw [if_pos ho, if_neg h7, if_neg h6]
     rw [hs] at hsn;simp (disch := omega) only [Vo, hX, List.length_map, he, A8, Aq, Ae, Bp, hp, Af, h7, h6, go_sem];refine Ad (k + 1) _ _ rfl (by omega) (by omega) ?_ ?_
     · simp (disch := omega) only [go_sem]
     · simp (disch := omega) only [hsn, Gg, go_sem]
 obtain rfl : k = l.length := by omega
 have htk : l.take l.length = l := List.take_length;have hol := Et (C8 l l e);simp (disch := omega) only [Vo, Gg, List.length_map, htk, Fv, hol, go_sem]
set_option maxHeartbeats 8000000 in
theorem Afw {l : List Evt} {rk : Evt → Nat} (e : Evt) {h d} (hE : EvsOk l rk) (hg : h 900 = some (.row 21 (l.map A9))) : FunOk Tryz.prog 60 [.os 900, .vec 21 (A9 e)] h d (.vec 15 (Ar (C8 l l e))) [.upd 900 (.row 21 (l.map A9))] := by
 refine Kb (g := 900) Ag fn60 (by simp) (by simp [A6, tn]) (by simp [A6, tn]) hg rfl (by simp [Blk.ptr, SV.kill]) rfl (fun _ => rfl) fun F => ?_;obtain ⟨f, hf⟩ : ∃ f : Bool, f = false := ⟨_, rfl⟩
 have hn := hE.len;simp (disch := omega) only [ir60, Aq, Af, Dp, Blk.ptr, go_sem];refine Aa (Wb (rk := rk) (l := l) (Ah e) rfl rfl hE) ?_;simp (disch := omega) only [go_sem];refine A1 Ag (Vn f l e) (fun k => k ≤ l.length) (fun k => l.length - k) 0 (by simp) (Ak ?_ ?_) fun k hk => ?_
 · simp (disch := omega) only [go_sem]
 · simp (disch := omega) only [C8, List.take_zero, List.foldl_nil, Gg, go_sem];exact Aiq ⟨Ah e, decide (e.kind = 2), Ah e, e.name, fun _ => 0, Cy l (Ah e) l⟩
 by_cases hlt : k < l.length
 · have hx : l[k]? = some l[k] := List.getElem?_eq_getElem hlt;have he : (l.map A9)[k]? = some (A9 l[k]) := by rw [List.getElem?_map, hx]; rfl
   have ht := C0 hx;have hsn := Jg l (l.take k) e l[k];rw [← ht] at hsn;generalize l[k] = g at *;generalize hX : C8 l (l.take k) e = X at *;by_cases ho : Az g = Ah e;rotate_left
   · have hp := Fe ho;have hs : D4 e X g = X := if_neg ho;rw [hs] at hsn;simp (disch := omega) only [Vn, hX, List.length_map, he, A8, Aq, Ae, Bp, hp, go_sem];refine Ad (k + 1) _ _ rfl (by omega) (by omega) ?_ ?_
     · simp (disch := omega) only [go_sem]
     · simp (disch := omega) only [hsn, Gg, go_sem]
   have hp := Fd ho;by_cases h7 : g.kind = 7
   · by_cases hl7 : Cm X.last.1 X.last.2 g.rep g.seq = true
     · have hs : D4 e X g = { X with last := Ah g, name := g.name } := by unfold D4; rw [if_pos ho, if_pos h7, if_pos hl7]
       rw [hs] at hsn;have hsp := Vs X (Ah g);have hsp2 := Vr { X with last := Ah g } g.name;simp (disch := omega) only [Vn, hX, List.length_map, he, A8, Aq, Ae, Bp, hp, Af, h7, Hz, go_sem];refine Aa (F8 X.last.1 X.last.2 g.rep g.seq) ?_;simp (disch := omega) only [hl7, go_sem];refine Re ?_;simp (disch := omega) only [List.length_map, he, Aq, Dp, hsp, hsp2, Af, h7, go_sem];refine Ad (k + 1) _ _ rfl (by omega) (by omega) ?_ ?_
       · simp (disch := omega) only [go_sem]
       · simp (disch := omega) only [hsn, Gg, go_sem]
     · have hs : D4 e X g = X := by unfold D4; rw [if_pos ho, if_pos h7, if_neg hl7]
       rw [hs] at hsn;have hl7' : Cm X.last.1 X.last.2 g.rep g.seq = false := by simpa using hl7
       simp (disch := omega) only [Vn, hX, List.length_map, he, A8, Aq, Ae, Bp, hp, Af, h7, Hz, go_sem];refine Aa (F8 X.last.1 X.last.2 g.rep g.seq) ?_;simp (disch := omega) only [hl7', List.length_map, he, Af, h7, go_sem];refine Ad (k + 1) _ _ rfl (by omega) (by omega) ?_ ?_
       · simp (disch := omega) only [go_sem]
       · simp (disch := omega) only [hsn, Gg, go_sem]
   by_cases h6 : g.kind = 6
   · have hs : D4 e X g = { X with seen := Cz X.seen (Ba g.dep g.rep g.seq) } := by unfold D4; rw [if_pos ho, if_neg h7, if_pos h6]
     rw [hs] at hsn;have hsp := Vq X (Cz X.seen (Ba g.dep g.rep g.seq));have hvl := Bi (Cz X.seen (Ba g.dep g.rep g.seq));simp (disch := omega) only [Vn, hX, List.length_map, he, A8, Aq, Ae, Bp, hp, Af, h7, h6, Lu, Fb, go_sem];refine Aa (E8 _ _ _) ?_;simp (disch := omega) only [go_sem];refine Aa (Uj _ _) ?_;simp (disch := omega) only [hsp, hvl, go_sem];refine Ad (k + 1) _ _ rfl (by omega) (by omega) ?_ ?_
     · simp (disch := omega) only [go_sem]
     · simp (disch := omega) only [hsn, Gg, go_sem]
   · have hs : D4 e X g = X := by unfold D4; rw [if_pos ho, if_neg h7, if_neg h6]
     rw [hs] at hsn;simp (disch := omega) only [Vn, hX, List.length_map, he, A8, Aq, Ae, Bp, hp, Af, h7, h6, go_sem];refine Ad (k + 1) _ _ rfl (by omega) (by omega) ?_ ?_
     · simp (disch := omega) only [go_sem]
     · simp (disch := omega) only [hsn, Gg, go_sem]
 obtain rfl : k = l.length := by omega
 have htk : l.take l.length = l := List.take_length;have hol := Et (C8 l l e);simp (disch := omega) only [Vn, Gg, List.length_map, htk, Fv, hol, go_sem];refine Bk ?_;simp (disch := omega) only [go_sem]
theorem Yl {l : List Evt} {rk : Evt → Nat} (e : Evt) {h d g} (hE : EvsOk l rk) (hg : h g = some (.row 21 (l.map A9))) : FunOk Tryz.prog 60 [.os g, .vec 21 (A9 e)] h d (.vec 15 (Ar (C8 l l e))) [] :=
 FunOk.ioRow (fun h d hg => Afw e hE hg) rfl rfl hg
def Hs (l : List Obj) (o : Obj) : List Obj := l.take (Cc l o.id) ++ o :: l.drop (Cc l o.id)
noncomputable def D0 (l : List Evt) (p : St × Vc) (e : Evt) : St × Vc :=
 if e.kind = 1 ∨ e.kind = 2 then ({ p.1 with objs := Hs p.1.objs (C8 l l e) }, p.2)
 else if e.kind = 8 then (if Ht p.2 e.rep < e.seq then (Ic p.1 e, Ba p.2 e.rep e.seq) else p)
 else if e.kind = 9 then (Oc p.1 e, p.2)
 else p
noncomputable def F3 (l m : List Evt) : St × Vc := m.foldl (D0 l) (⟨Bn l, [], C3 l l, fun _ => 0, fun _ => false⟩, fun _ => 0)
noncomputable def An (l : List Evt) : St := (F3 l l).1
theorem H3 (l m : List Evt) (e : Evt) : F3 l (m ++ [e]) = D0 l (F3 l m) e := by simp [F3]
theorem Adk {l : List Obj} {o x : Obj} : x ∈ Hs l o ↔ x = o ∨ x ∈ l := by
 unfold Hs;simp only [List.mem_append, List.mem_cons];have : x ∈ l ↔ x ∈ l.take (Cc l o.id) ∨ x ∈ l.drop (Cc l o.id) := by rw [← List.mem_append, List.take_append_drop]
 rw [this];constructor
 · rintro (h | h | h)
   · exact .inr (.inl h)
   · exact .inl h
   · exact .inr (.inr h)
 · rintro (h | h | h)
   · exact .inr (.inl h)
   · exact .inl h
   · exact .inr (.inr h)
theorem Arb (l : List Obj) (o : Obj) : (Hs l o).length = l.length + 1 := by
 unfold Hs;simp only [List.length_append, List.length_take, List.length_cons, List.length_drop];have := Lq l o.id; omega
theorem Av4 (l : List Obj) (o : Obj) : (Hs l o).map obN = Og (l.map obN) (obN o) := by
 unfold Hs Og Cc;simp [List.map_take, List.map_drop]; rfl
theorem Yg {l : List Obj} {o : Obj} (hs : Eo l) (hn : ∀ x ∈ l, x.id ≠ o.id) : Eo (Hs l o) := by
 unfold Eo; rw [Av4];refine Vu hs (F9.2 fun x hx => ?_);obtain ⟨u, hu, rfl⟩ := List.mem_map.1 hx;exact hn u hu
theorem I9 (l : List Evt) (e : Evt) : ∀ m : List Evt, (C8 l m e).id = Ah e := fun m => by
 unfold C8;generalize hq : (⟨Ah e, decide (e.kind = 2), Ah e, e.name, fun _ => 0, Cy l (Ah e) l⟩ : Obj) = o;have : o.id = Ah e := by rw [← hq]
 clear hq
 induction m generalizing o with
 | nil => exact this
 | cons f m ih =>
   simp only [List.foldl_cons];refine ih _ ?_;unfold D4;split
   · split
     · split <;> exact this
     · split <;> exact this
   · exact this
theorem Rd {l : List Evt} : ∀ (n : Nat) (m : List Evt), m.length = n → NodE m → Eo (F3 l m).1.objs ∧ (F3 l m).1.objs.length ≤ n ∧ ∀ o, o ∈ (F3 l m).1.objs ↔ ∃ e ∈ m, (e.kind = 1 ∨ e.kind = 2) ∧ o = C8 l l e
 | 0, m, h, _ => by obtain rfl := List.eq_nil_of_length_eq_zero h; exact ⟨List.Pairwise.nil, by simp [F3], by simp [F3]⟩
 | n + 1, m, h, hn => by
   have hne : m ≠ [] := fun e => by subst e; simp at h
   have e1 := (List.dropLast_concat_getLast hne).symm;have hn' : NodE m.dropLast := by unfold NodE at *; rw [List.map_dropLast]; exact hn.sublist (List.dropLast_sublist _)
   obtain ⟨h1, h2, h3⟩ := Rd (l := l) n m.dropLast (by simp [h]) hn';rw [e1] at hn ⊢;rw [H3];generalize m.getLast hne = e at *;generalize m.dropLast = m' at *;have grow : ∀ o : Obj, ((∃ f ∈ m' ++ [e], (f.kind = 1 ∨ f.kind = 2) ∧ o = C8 l l f) ↔ (∃ f ∈ m', (f.kind = 1 ∨ f.kind = 2) ∧ o = C8 l l f) ∨ ((e.kind = 1 ∨ e.kind = 2) ∧ o = C8 l l e)) := fun o => by
    simp only [List.mem_append, List.mem_singleton];constructor
    · rintro ⟨f, hf | rfl, h⟩
      · exact .inl ⟨f, hf, h⟩
      · exact .inr h
    · rintro (⟨f, hf, h⟩ | h)
      · exact ⟨f, .inl hf, h⟩
      · exact ⟨e, .inr rfl, h⟩
   by_cases h12 : e.kind = 1 ∨ e.kind = 2
   · have hS : (D0 l (F3 l m') e).1.objs = Hs (F3 l m').1.objs (C8 l l e) := by unfold D0; rw [if_pos h12]
     rw [hS];have hnew : ∀ x ∈ (F3 l m').1.objs, x.id ≠ (C8 l l e).id := fun x hx => by
      obtain ⟨f, hf, _, rfl⟩ := (h3 x).1 hx;rw [I9, I9];unfold NodE at hn;rw [List.map_append, List.nodup_append] at hn;exact hn.2.2 (Ah f) (List.mem_map_of_mem hf) (Ah e) (by simp)
     refine ⟨Yg h1 hnew, by rw [Arb]; omega, fun o => ?_⟩;rw [Adk, h3, grow];constructor
     · rintro (h | h)
       · exact .inr ⟨h12, h⟩
       · exact .inl h
     · rintro (h | h)
       · exact .inr h
       · exact .inl h.2
   · have hS : (D0 l (F3 l m') e).1.objs = (F3 l m').1.objs := by
      unfold D0; rw [if_neg h12];split
      · split <;> rfl
      · split <;> rfl
     rw [hS];refine ⟨h1, by omega, fun o => ?_⟩;rw [h3, grow];exact ⟨.inl, fun h => h.resolve_right fun q => h12 q.1⟩
theorem Aen (l m : List Evt) : (F3 l m).1.ents = C3 l l ∧ (F3 l m).1.known = Bn l := by
 unfold F3;generalize hq : ((⟨Bn l, [], C3 l l, fun _ => 0, fun _ => false⟩ : St), (fun _ => 0 : Vc)) = p;have : p.1.ents = C3 l l ∧ p.1.known = Bn l := by rw [← hq]; exact ⟨rfl, rfl⟩
 clear hq
 induction m generalizing p with
 | nil => exact this
 | cons f m ih =>
   simp only [List.foldl_cons];refine ih _ ?_;unfold D0;split
   · exact this
   · split
     · split
       · exact this
       · exact this
     · split <;> exact this
noncomputable def Tg (f : Bool) (l : List Evt) (k : Nat) : FS := mk [(5, .pv (.i .i64 k)), (0, .pv (.sl f 21 (l.map A9))), (2, .p 2 0), (3, .p 3 0), (4, .p 4 0)] [(2, some (.var Cd)), (3, some (.var (.agg (A5 (F3 l (l.take k)).1)))), (4, some (.var (.vec 8 (vE (F3 l (l.take k)).2))))]
noncomputable def Tf (f : Bool) (l : List Evt) (k : Nat) : FS := mk [(5, .pv (.i .i64 k)), (0, .os 900), (2, .p 2 0), (3, .p 3 0), (4, .p 4 0), (1000000, .os 900)] [(2, some (.var Cd)), (3, some (.var (.agg (A5 (F3 l (l.take k)).1)))), (4, some (.var (.vec 8 (vE (F3 l (l.take k)).2)))), (900, some (.row 21 (l.map A9)))]
noncomputable def Yc (f : Bool) (l : List Evt) (k : Nat) (e : Evt) (S : St) (v : Vc) (o : Obj) (j : Nat) : FS := mk [(8, .pv (.i .i64 j)), (7, .p 7 0), (6, .p 6 0), (5, .pv (.i .i64 k)), (0, .pv (.sl f 21 (l.map A9))), (2, .p 2 0), (3, .p 3 0), (4, .p 4 0)] [(7, some (.var (.vec 15 (Ar o)))), (6, some (.var (.vec 21 (A9 e)))), (2, some (.var Cd)), (3, some (.var (.agg (A5 S)))), (4, some (.var (.vec 8 (vE v))))]
noncomputable def Yb (f : Bool) (l : List Evt) (k : Nat) (e : Evt) (S : St) (v : Vc) (o : Obj) (j : Nat) : FS := mk [(8, .pv (.i .i64 j)), (7, .p 7 0), (6, .p 6 0), (5, .pv (.i .i64 k)), (0, .os 900), (2, .p 2 0), (3, .p 3 0), (4, .p 4 0), (1000000, .os 900)] [(7, some (.var (.vec 15 (Ar o)))), (6, some (.var (.vec 21 (A9 e)))), (2, some (.var Cd)), (3, some (.var (.agg (A5 S)))), (4, some (.var (.vec 8 (vE v)))), (900, some (.row 21 (l.map A9)))]
theorem Nw {l : List Obj} {i : Bq} {k : Nat} {x : Obj} (hk : k < Cc l i) (hx : l[k]? = some x) : H8 x.id i = true := by
 obtain ⟨y, h1, h2⟩ := Ao4 (l := l.map obN) hk;rw [Ux hx] at h1; cases h1; exact h2
theorem Qb {l : List Obj} (hs : Eo l) {i : Bq} {k : Nat} {x : Obj} (hk : Cc l i ≤ k) (hx : l[k]? = some x) : ¬ H8 x.id i = true := A07 (l := l.map obN) hs hk (Ux hx)
set_option maxHeartbeats 16000000 in
theorem Wh {f : Bool} {l : List Evt} {rk : Evt → Nat} {h d} (hE : EvsOk l rk) (hB : ∀ e ∈ l, 1 ≤ e.rep ∧ e.rep ≤ 8) : FunOk Tryz.prog 15 [.pv (.sl f 21 (l.map A9))] h d (.agg (A5 (An l))) [] := by
 refine Ap Ag fn15 (by simp) rfl rfl fun F => ?_;have hn := hE.len;have hevs : ∀ e ∈ l, ev e := fun e he => (hE.ev e he).1;simp (disch := omega) only [ir15, Blk.ptr, go_sem];refine Aa (Aas (l := l) rfl rfl (by omega)) ?_;simp (disch := omega) only [go_sem];refine Aa (Yo (l := l) rfl rfl (by omega) hevs) ?_;simp (disch := omega) only [go_sem];refine A1 Ag (Tg f l) (fun k => k ≤ l.length) (fun k => l.length - k) 0 (by simp) (Ak ?_ ?_) fun k hk => ?_
 · simp (disch := omega) only [go_sem]
 · simp (disch := omega) only [F3, List.take_zero, List.foldl_nil, Cd, go_sem];exact ⟨Ug (s := ⟨Bn l, [], C3 l l, fun _ => 0, fun _ => false⟩) (.inl rfl) (.inr rfl) trivial (.refl _), rfl⟩
 by_cases hlt : k < l.length
 · have hx : l[k]? = some l[k] := List.getElem?_eq_getElem hlt;have he : (l.map A9)[k]? = some (A9 l[k]) := by rw [List.getElem?_map, hx]; rfl
   have ht := C0 hx;have hsn := H3 l (l.take k) l[k];have hlk : (l.take k).length ≤ 400 := by simp; omega
   have hnd := hE.nod.take (k + 1);rw [← ht] at hsn;rw [ht] at hnd;have hrep := hB _ (List.getElem_mem hlt);generalize l[k] = e at *;obtain ⟨hso, hol, hom⟩ := Rd (l := l) _ (l.take k) rfl (hE.nod.take k);have hel := Ac e;generalize hX : F3 l (l.take k) = X at *;obtain ⟨S, v⟩ := X;simp only at hso hol hom;by_cases h12 : e.kind = 1 ∨ e.kind = 2
   · have hs : D0 l (S, v) e = ({ S with objs := Hs S.objs (C8 l l e) }, v) := by unfold D0; rw [if_pos h12]
     rw [hs] at hsn;have n8 : ¬ e.kind = 8 := by omega
     have n9 : ¬ e.kind = 9 := by omega
     have hoe := Et (C8 l l e);have hoi := I9 l e l;have hnew : ∀ x ∈ S.objs, x.id ≠ Ah e := fun x hx => by
      obtain ⟨f, hf, _, rfl⟩ := (hom x).1 hx;rw [I9];unfold NodE at hnd;rw [List.map_append, List.nodup_append] at hnd;exact hnd.2.2 (Ah f) (List.mem_map_of_mem hf) (Ah e) (by simp)
     rcases h12 with h1 | h2
     · simp (disch := omega) only [Tg, hX, List.length_map, he, Bf, hel, Af, h1, go_sem];refine Aa (Ym e hE) ?_;simp (disch := omega) only [hoe, A5, A3, List.length_map, Cd, go_sem];generalize hO : C8 l l e = o at *;have hp0 := Lq S.objs (Ah e);refine A1 Ag (Yc f l k e S v o) (fun j => Cc S.objs (Ah e) ≤ j ∧ j ≤ S.objs.length) (fun j => j) S.objs.length ⟨hp0, Nat.le_refl _⟩ (Ak ?_ ?_) fun j hj => ?_
       · simp (disch := omega) only [go_sem]
       · simp (disch := omega) only [A5, A3, Cd, go_sem]
       obtain ⟨hj1, hj2⟩ := hj;by_cases hj0 : j = 0
       · subst hj0;have hjq : Cc S.objs (Ah e) = 0 := by omega
         simp (disch := omega) only [Yc, A5, A3, Cd, go_sem];have hT : (S.objs.map Ar).take S.objs.length = S.objs.map Ar := List.take_of_length_le (by simp);have hD : ((S.objs.map Ar).drop 0).length = S.objs.length - 0 := by simp
         have hD2 : ((S.objs.map Ar).take 0).length = 0 := by rw [List.length_take, List.length_map]; omega
         have hI : (S.objs.map Ar).take 0 ++ Ar o :: S.objs.map Ar = (Hs S.objs o).map Ar := by
          unfold Hs; rw [hoi, hjq]; simp [List.map_take, List.map_drop]
         refine Hp ?_;simp (disch := omega) only [List.length_map, Fv, hoe, hT, hD, hD2, Af, n8, n9, go_sem];refine ⟨k + 1, by omega, by omega, D3 70 rfl (Ak ?_ ?_)⟩
         · simp (disch := omega) only [go_sem]
         · simp (disch := omega) only [hI, hsn, A5, A3, Cd, go_sem]
       · have hjx : j - 1 < S.objs.length := by omega
         have hx3 : S.objs[j - 1]? = some S.objs[j - 1] := List.getElem?_eq_getElem hjx;have he3 : (S.objs.map Ar)[j - 1]? = some (Ar S.objs[j - 1]) := by rw [List.getElem?_map, hx3]; rfl
         have hmx := List.getElem_mem hjx;have ejn : ((j : Int) - 1).toNat = j - 1 := by omega
         have hjp : (0 : Int) < j := by omega
         generalize S.objs[j - 1] = x at *;simp (disch := omega) only [Yc, A5, A3, Cd, hjp, List.length_map, ejn, he3, Hf, go_sem];refine Aa (F8 o.id.1 o.id.2 x.id.1 x.id.2) ?_;by_cases hlx : Cm o.id.1 o.id.2 x.id.1 x.id.2 = true
         · simp (disch := omega) only [hlx, go_sem];refine Ad (j - 1) _ _ rfl ⟨?_, by omega⟩ (by omega) ?_ ?_
           · have : ¬ Cc S.objs (Ah e) = j := fun q => M6 (Nw (i := Ah e) (by omega) hx3) (by rw [← hoi]; exact hlx);omega
           · simp (disch := omega) only [go_sem]
           · simp (disch := omega) only [A5, A3, Cd, go_sem]
         · have hlx' : Cm o.id.1 o.id.2 x.id.1 x.id.2 = false := by simpa using hlx
           have hjq : Cc S.objs (Ah e) = j := by
            have h3 : H8 x.id (Ah e) = true := by
             rw [hoi] at hlx;exact J9 hlx (fun q => hnew x hmx q.symm)
            have : ¬ Cc S.objs (Ah e) ≤ j - 1 := fun q => Qb hso q hx3 h3;omega
           simp (disch := omega) only [hlx', go_sem];have hT : (S.objs.map Ar).take S.objs.length = S.objs.map Ar := List.take_of_length_le (by simp);have hD : ((S.objs.map Ar).drop j).length = S.objs.length - j := by simp
           have hD2 : ((S.objs.map Ar).take j).length = j := by rw [List.length_take, List.length_map]; omega
           have hI : (S.objs.map Ar).take j ++ Ar o :: (S.objs.map Ar).drop j = (Hs S.objs o).map Ar := by
            unfold Hs; rw [hoi, hjq]; simp [List.map_take, List.map_drop]
           refine Hp ?_;simp (disch := omega) only [List.length_map, Fv, hoe, hT, hD, hD2, Af, n8, n9, go_sem];refine ⟨k + 1, by omega, by omega, D3 70 rfl (Ak ?_ ?_)⟩
           · simp (disch := omega) only [go_sem]
           · simp (disch := omega) only [hI, hsn, A5, A3, Cd, go_sem]
     · have n1 : ¬ e.kind = 1 := by omega
       simp (disch := omega) only [Tg, hX, List.length_map, he, Bf, hel, Af, n1, h2, go_sem];refine Aa (Ym e hE) ?_;simp (disch := omega) only [hoe, A5, A3, List.length_map, Cd, go_sem];generalize hO : C8 l l e = o at *;have hp0 := Lq S.objs (Ah e);refine A1 Ag (Yc f l k e S v o) (fun j => Cc S.objs (Ah e) ≤ j ∧ j ≤ S.objs.length) (fun j => j) S.objs.length ⟨hp0, Nat.le_refl _⟩ (Ak ?_ ?_) fun j hj => ?_
       · simp (disch := omega) only [go_sem]
       · simp (disch := omega) only [A5, A3, Cd, go_sem]
       obtain ⟨hj1, hj2⟩ := hj;by_cases hj0 : j = 0
       · subst hj0;have hjq : Cc S.objs (Ah e) = 0 := by omega
         simp (disch := omega) only [Yc, A5, A3, Cd, go_sem];have hT : (S.objs.map Ar).take S.objs.length = S.objs.map Ar := List.take_of_length_le (by simp);have hD : ((S.objs.map Ar).drop 0).length = S.objs.length - 0 := by simp
         have hD2 : ((S.objs.map Ar).take 0).length = 0 := by rw [List.length_take, List.length_map]; omega
         have hI : (S.objs.map Ar).take 0 ++ Ar o :: S.objs.map Ar = (Hs S.objs o).map Ar := by
          unfold Hs; rw [hoi, hjq]; simp [List.map_take, List.map_drop]
         refine Hp ?_;simp (disch := omega) only [List.length_map, Fv, hoe, hT, hD, hD2, Af, n8, n9, go_sem];refine ⟨k + 1, by omega, by omega, D3 70 rfl (Ak ?_ ?_)⟩
         · simp (disch := omega) only [go_sem]
         · simp (disch := omega) only [hI, hsn, A5, A3, Cd, go_sem]
       · have hjx : j - 1 < S.objs.length := by omega
         have hx3 : S.objs[j - 1]? = some S.objs[j - 1] := List.getElem?_eq_getElem hjx;have he3 : (S.objs.map Ar)[j - 1]? = some (Ar S.objs[j - 1]) := by rw [List.getElem?_map, hx3]; rfl
         have hmx := List.getElem_mem hjx;have ejn : ((j : Int) - 1).toNat = j - 1 := by omega
         have hjp : (0 : Int) < j := by omega
         generalize S.objs[j - 1] = x at *;simp (disch := omega) only [Yc, A5, A3, Cd, hjp, List.length_map, ejn, he3, Hf, go_sem];refine Aa (F8 o.id.1 o.id.2 x.id.1 x.id.2) ?_;by_cases hlx : Cm o.id.1 o.id.2 x.id.1 x.id.2 = true
         · simp (disch := omega) only [hlx, go_sem];refine Ad (j - 1) _ _ rfl ⟨?_, by omega⟩ (by omega) ?_ ?_
           · have : ¬ Cc S.objs (Ah e) = j := fun q => M6 (Nw (i := Ah e) (by omega) hx3) (by rw [← hoi]; exact hlx);omega
           · simp (disch := omega) only [go_sem]
           · simp (disch := omega) only [A5, A3, Cd, go_sem]
         · have hlx' : Cm o.id.1 o.id.2 x.id.1 x.id.2 = false := by simpa using hlx
           have hjq : Cc S.objs (Ah e) = j := by
            have h3 : H8 x.id (Ah e) = true := by
             rw [hoi] at hlx;exact J9 hlx (fun q => hnew x hmx q.symm)
            have : ¬ Cc S.objs (Ah e) ≤ j - 1 := fun q => Qb hso q hx3 h3;omega
           simp (disch := omega) only [hlx', go_sem];have hT : (S.objs.map Ar).take S.objs.length = S.objs.map Ar := List.take_of_length_le (by simp);have hD : ((S.objs.map Ar).drop j).length = S.objs.length - j := by simp
           have hD2 : ((S.objs.map Ar).take j).length = j := by rw [List.length_take, List.length_map]; omega
           have hI : (S.objs.map Ar).take j ++ Ar o :: (S.objs.map Ar).drop j = (Hs S.objs o).map Ar := by
            unfold Hs; rw [hoi, hjq]; simp [List.map_take, List.map_drop]
           refine Hp ?_;simp (disch := omega) only [List.length_map, Fv, hoe, hT, hD, hD2, Af, n8, n9, go_sem];refine ⟨k + 1, by omega, by omega, D3 70 rfl (Ak ?_ ?_)⟩
           · simp (disch := omega) only [go_sem]
           · simp (disch := omega) only [hI, hsn, A5, A3, Cd, go_sem]
   have n1 : ¬ e.kind = 1 := fun h => h12 (.inl h);have n2 : ¬ e.kind = 2 := fun h => h12 (.inr h);obtain ⟨r, hr8, hre⟩ : ∃ r : Nat, r < 8 ∧ e.rep - 1 = r := ⟨(e.rep - 1).toNat, by omega, by omega⟩
   by_cases h8 : e.kind = 8
   · have n9 : ¬ e.kind = 9 := by omega
     by_cases hq : Ht v e.rep < e.seq
     · have hs : D0 l (S, v) e = (Ic S e, Ba v e.rep e.seq) := by unfold D0; rw [if_neg h12, if_pos h8]; exact if_pos hq
       rw [hs] at hsn;have hS : Ic S e = { S with wards := E7 S.wards r e.ward } := by unfold Ic; rw [hre]; rfl
       rw [hS] at hsn;have hsp := Vt S hr8 e.ward (.sl false 15 (S.objs.map Ar)) (.sl false 15 (S.ents.map Bm));have hq' : ((Ht v e.rep : Nat) : Int) < (e.seq : Int) := by omega
       have hvl := Bi (Ba v e.rep e.seq);simp (disch := omega) only [Tg, hX, List.length_map, he, Bf, hel, Af, n1, n2, h8, Dc, Fx, go_sem];refine Aa (Pd v e.rep) ?_;simp (disch := omega) only [hq', Aq, go_sem];refine Aa (E8 _ _ _) ?_;simp (disch := omega) only [hvl, Dc, hre, Up, A5, A3, hsp, Af, h8, go_sem];refine Ad (k + 1) _ _ rfl (by omega) (by omega) ?_ ?_
       · simp (disch := omega) only [go_sem]
       · simp (disch := omega) only [hsn, Cd, go_sem];exact ⟨R0 { S with wards := E7 S.wards r e.ward }, rfl⟩
     · have hs : D0 l (S, v) e = (S, v) := by unfold D0; rw [if_neg h12, if_pos h8]; exact if_neg hq
       rw [hs] at hsn;have hq' : ¬ ((Ht v e.rep : Nat) : Int) < (e.seq : Int) := by omega
       simp (disch := omega) only [Tg, hX, List.length_map, he, Bf, hel, Af, n1, n2, h8, Dc, Fx, go_sem];refine Aa (Pd v e.rep) ?_;simp (disch := omega) only [hq', Af, h8, go_sem];refine Ad (k + 1) _ _ rfl (by omega) (by omega) ?_ ?_
       · simp (disch := omega) only [go_sem]
       · simp (disch := omega) only [hsn, Cd, A5, A3, go_sem]
   by_cases h9 : e.kind = 9
   · have hs : D0 l (S, v) e = (Oc S e, v) := by unfold D0; rw [if_neg h12, if_neg h8, if_pos h9]
     rw [hs] at hsn;have hS : Oc S e = { S with ret := E7 S.ret r true } := by unfold Oc; rw [hre]; rfl
     rw [hS] at hsn;have hsp := Aaf S hr8 true (.sl false 15 (S.objs.map Ar)) (.sl false 15 (S.ents.map Bm));simp (disch := omega) only [Tg, hX, List.length_map, he, Bf, hel, Af, n1, n2, h8, h9, Dc, hre, A5, A3, hsp, go_sem];refine Ad (k + 1) _ _ rfl (by omega) (by omega) ?_ ?_
     · simp (disch := omega) only [go_sem]
     · simp (disch := omega) only [hsn, Cd, go_sem];exact R0 { S with ret := E7 S.ret r true }
   · have hs : D0 l (S, v) e = (S, v) := by unfold D0; rw [if_neg h12, if_neg h8, if_neg h9]
     rw [hs] at hsn;simp (disch := omega) only [Tg, hX, List.length_map, he, Bf, hel, Af, n1, n2, h8, h9, go_sem];refine Ad (k + 1) _ _ rfl (by omega) (by omega) ?_ ?_
     · simp (disch := omega) only [go_sem]
     · simp (disch := omega) only [hsn, Cd, A5, A3, go_sem]
 obtain rfl : k = l.length := by omega
 have htk : l.take l.length = l := List.take_length;simp (disch := omega) only [Tg, Cd, A5, A3, List.length_map, htk, An, go_sem]
set_option maxHeartbeats 16000000 in
theorem Akp {l : List Evt} {rk : Evt → Nat} {h d} (hE : EvsOk l rk) (hB : ∀ e ∈ l, 1 ≤ e.rep ∧ e.rep ≤ 8) (hg : h 900 = some (.row 21 (l.map A9))) : FunOk Tryz.prog 15 [.os 900] h d (.agg (A5 (An l))) [.upd 900 (.row 21 (l.map A9))] := by
 refine Kb (g := 900) Ag fn15 (by simp) (by simp [A6, tn]) (by simp [A6, tn]) hg rfl (by simp [Blk.ptr, SV.kill]) rfl (fun _ => rfl) fun F => ?_;obtain ⟨f, hf⟩ : ∃ f : Bool, f = false := ⟨_, rfl⟩
 have hn := hE.len;have hevs : ∀ e ∈ l, ev e := fun e he => (hE.ev e he).1;simp (disch := omega) only [ir15, Blk.ptr, go_sem];refine Aa (Aas (l := l) rfl rfl (by omega)) ?_;simp (disch := omega) only [go_sem];refine Aa (Yo (l := l) rfl rfl (by omega) hevs) ?_;simp (disch := omega) only [go_sem];refine A1 Ag (Tf f l) (fun k => k ≤ l.length) (fun k => l.length - k) 0 (by simp) (Ak ?_ ?_) fun k hk => ?_
 · simp (disch := omega) only [go_sem]
 · simp (disch := omega) only [F3, List.take_zero, List.foldl_nil, Cd, go_sem];exact ⟨Ug (s := ⟨Bn l, [], C3 l l, fun _ => 0, fun _ => false⟩) (.inl rfl) (.inr rfl) trivial (.refl _), rfl⟩
 by_cases hlt : k < l.length
 · have hx : l[k]? = some l[k] := List.getElem?_eq_getElem hlt;have he : (l.map A9)[k]? = some (A9 l[k]) := by rw [List.getElem?_map, hx]; rfl
   have ht := C0 hx;have hsn := H3 l (l.take k) l[k];have hlk : (l.take k).length ≤ 400 := by simp; omega
   have hnd := hE.nod.take (k + 1);rw [← ht] at hsn;rw [ht] at hnd;have hrep := hB _ (List.getElem_mem hlt);generalize l[k] = e at *;obtain ⟨hso, hol, hom⟩ := Rd (l := l) _ (l.take k) rfl (hE.nod.take k);have hel := Ac e;generalize hX : F3 l (l.take k) = X at *;obtain ⟨S, v⟩ := X;simp only at hso hol hom;by_cases h12 : e.kind = 1 ∨ e.kind = 2
   · have hs : D0 l (S, v) e = ({ S with objs := Hs S.objs (C8 l l e) }, v) := by unfold D0; rw [if_pos h12]
     rw [hs] at hsn;have n8 : ¬ e.kind = 8 := by omega
     have n9 : ¬ e.kind = 9 := by omega
     have hoe := Et (C8 l l e);have hoi := I9 l e l;have hnew : ∀ x ∈ S.objs, x.id ≠ Ah e := fun x hx => by
      obtain ⟨f, hf, _, rfl⟩ := (hom x).1 hx;rw [I9];unfold NodE at hnd;rw [List.map_append, List.nodup_append] at hnd;exact hnd.2.2 (Ah f) (List.mem_map_of_mem hf) (Ah e) (by simp)
     rcases h12 with h1 | h2
     · simp (disch := omega) only [Tf, hX, List.length_map, he, Bf, hel, Af, h1, go_sem];refine Aa (Yl e hE rfl) ?_;simp (disch := omega) only [hoe, A5, A3, List.length_map, Cd, go_sem];generalize hO : C8 l l e = o at *;have hp0 := Lq S.objs (Ah e);refine A1 Ag (Yb f l k e S v o) (fun j => Cc S.objs (Ah e) ≤ j ∧ j ≤ S.objs.length) (fun j => j) S.objs.length ⟨hp0, Nat.le_refl _⟩ (Ak ?_ ?_) fun j hj => ?_
       · simp (disch := omega) only [go_sem]
       · simp (disch := omega) only [A5, A3, Cd, go_sem]
       obtain ⟨hj1, hj2⟩ := hj;by_cases hj0 : j = 0
       · subst hj0;have hjq : Cc S.objs (Ah e) = 0 := by omega
         simp (disch := omega) only [Yb, A5, A3, Cd, go_sem];have hT : (S.objs.map Ar).take S.objs.length = S.objs.map Ar := List.take_of_length_le (by simp);have hD : ((S.objs.map Ar).drop 0).length = S.objs.length - 0 := by simp
         have hD2 : ((S.objs.map Ar).take 0).length = 0 := by rw [List.length_take, List.length_map]; omega
         have hI : (S.objs.map Ar).take 0 ++ Ar o :: S.objs.map Ar = (Hs S.objs o).map Ar := by
          unfold Hs; rw [hoi, hjq]; simp [List.map_take, List.map_drop]
         refine Hp ?_;simp (disch := omega) only [List.length_map, Fv, hoe, hT, hD, hD2, Af, n8, n9, go_sem];refine ⟨k + 1, by omega, by omega, D3 70 rfl (Ak ?_ ?_)⟩
         · simp (disch := omega) only [go_sem]
         · simp (disch := omega) only [hI, hsn, A5, A3, Cd, go_sem]
       · have hjx : j - 1 < S.objs.length := by omega
         have hx3 : S.objs[j - 1]? = some S.objs[j - 1] := List.getElem?_eq_getElem hjx;have he3 : (S.objs.map Ar)[j - 1]? = some (Ar S.objs[j - 1]) := by rw [List.getElem?_map, hx3]; rfl
         have hmx := List.getElem_mem hjx;have ejn : ((j : Int) - 1).toNat = j - 1 := by omega
         have hjp : (0 : Int) < j := by omega
         generalize S.objs[j - 1] = x at *;simp (disch := omega) only [Yb, A5, A3, Cd, hjp, List.length_map, ejn, he3, Hf, go_sem];refine Aa (F8 o.id.1 o.id.2 x.id.1 x.id.2) ?_;by_cases hlx : Cm o.id.1 o.id.2 x.id.1 x.id.2 = true
         · simp (disch := omega) only [hlx, go_sem];refine Ad (j - 1) _ _ rfl ⟨?_, by omega⟩ (by omega) ?_ ?_
           · have : ¬ Cc S.objs (Ah e) = j := fun q => M6 (Nw (i := Ah e) (by omega) hx3) (by rw [← hoi]; exact hlx);omega
           · simp (disch := omega) only [go_sem]
           · simp (disch := omega) only [A5, A3, Cd, go_sem]
         · have hlx' : Cm o.id.1 o.id.2 x.id.1 x.id.2 = false := by simpa using hlx
           have hjq : Cc S.objs (Ah e) = j := by
            have h3 : H8 x.id (Ah e) = true := by
             rw [hoi] at hlx;exact J9 hlx (fun q => hnew x hmx q.symm)
            have : ¬ Cc S.objs (Ah e) ≤ j - 1 := fun q => Qb hso q hx3 h3;omega
           simp (disch := omega) only [hlx', go_sem];have hT : (S.objs.map Ar).take S.objs.length = S.objs.map Ar := List.take_of_length_le (by simp);have hD : ((S.objs.map Ar).drop j).length = S.objs.length - j := by simp
           have hD2 : ((S.objs.map Ar).take j).length = j := by rw [List.length_take, List.length_map]; omega
           have hI : (S.objs.map Ar).take j ++ Ar o :: (S.objs.map Ar).drop j = (Hs S.objs o).map Ar := by
            unfold Hs; rw [hoi, hjq]; simp [List.map_take, List.map_drop]
           refine Hp ?_;simp (disch := omega) only [List.length_map, Fv, hoe, hT, hD, hD2, Af, n8, n9, go_sem];refine ⟨k + 1, by omega, by omega, D3 70 rfl (Ak ?_ ?_)⟩
           · simp (disch := omega) only [go_sem]
           · simp (disch := omega) only [hI, hsn, A5, A3, Cd, go_sem]
     · have n1 : ¬ e.kind = 1 := by omega
       simp (disch := omega) only [Tf, hX, List.length_map, he, Bf, hel, Af, n1, h2, go_sem];refine Aa (Yl e hE rfl) ?_;simp (disch := omega) only [hoe, A5, A3, List.length_map, Cd, go_sem];generalize hO : C8 l l e = o at *;have hp0 := Lq S.objs (Ah e);refine A1 Ag (Yb f l k e S v o) (fun j => Cc S.objs (Ah e) ≤ j ∧ j ≤ S.objs.length) (fun j => j) S.objs.length ⟨hp0, Nat.le_refl _⟩ (Ak ?_ ?_) fun j hj => ?_
       · simp (disch := omega) only [go_sem]
       · simp (disch := omega) only [A5, A3, Cd, go_sem]
       obtain ⟨hj1, hj2⟩ := hj;by_cases hj0 : j = 0
       · subst hj0;have hjq : Cc S.objs (Ah e) = 0 := by omega
         simp (disch := omega) only [Yb, A5, A3, Cd, go_sem];have hT : (S.objs.map Ar).take S.objs.length = S.objs.map Ar := List.take_of_length_le (by simp);have hD : ((S.objs.map Ar).drop 0).length = S.objs.length - 0 := by simp
         have hD2 : ((S.objs.map Ar).take 0).length = 0 := by rw [List.length_take, List.length_map]; omega
         have hI : (S.objs.map Ar).take 0 ++ Ar o :: S.objs.map Ar = (Hs S.objs o).map Ar := by
          unfold Hs; rw [hoi, hjq]; simp [List.map_take, List.map_drop]
         refine Hp ?_;simp (disch := omega) only [List.length_map, Fv, hoe, hT, hD, hD2, Af, n8, n9, go_sem];refine ⟨k + 1, by omega, by omega, D3 70 rfl (Ak ?_ ?_)⟩
         · simp (disch := omega) only [go_sem]
         · simp (disch := omega) only [hI, hsn, A5, A3, Cd, go_sem]
       · have hjx : j - 1 < S.objs.length := by omega
         have hx3 : S.objs[j - 1]? = some S.objs[j - 1] := List.getElem?_eq_getElem hjx;have he3 : (S.objs.map Ar)[j - 1]? = some (Ar S.objs[j - 1]) := by rw [List.getElem?_map, hx3]; rfl
         have hmx := List.getElem_mem hjx;have ejn : ((j : Int) - 1).toNat = j - 1 := by omega
         have hjp : (0 : Int) < j := by omega
         generalize S.objs[j - 1] = x at *;simp (disch := omega) only [Yb, A5, A3, Cd, hjp, List.length_map, ejn, he3, Hf, go_sem];refine Aa (F8 o.id.1 o.id.2 x.id.1 x.id.2) ?_;by_cases hlx : Cm o.id.1 o.id.2 x.id.1 x.id.2 = true
         · simp (disch := omega) only [hlx, go_sem];refine Ad (j - 1) _ _ rfl ⟨?_, by omega⟩ (by omega) ?_ ?_
           · have : ¬ Cc S.objs (Ah e) = j := fun q => M6 (Nw (i := Ah e) (by omega) hx3) (by rw [← hoi]; exact hlx);omega
           · simp (disch := omega) only [go_sem]
           · simp (disch := omega) only [A5, A3, Cd, go_sem]
         · have hlx' : Cm o.id.1 o.id.2 x.id.1 x.id.2 = false := by simpa using hlx
           have hjq : Cc S.objs (Ah e) = j := by
            have h3 : H8 x.id (Ah e) = true := by
             rw [hoi] at hlx;exact J9 hlx (fun q => hnew x hmx q.symm)
            have : ¬ Cc S.objs (Ah e) ≤ j - 1 := fun q => Qb hso q hx3 h3;omega
           simp (disch := omega) only [hlx', go_sem];have hT : (S.objs.map Ar).take S.objs.length = S.objs.map Ar := List.take_of_length_le (by simp);have hD : ((S.objs.map Ar).drop j).length = S.objs.length - j := by simp
           have hD2 : ((S.objs.map Ar).take j).length = j := by rw [List.length_take, List.length_map]; omega
           have hI : (S.objs.map Ar).take j ++ Ar o :: (S.objs.map Ar).drop j = (Hs S.objs o).map Ar := by
            unfold Hs; rw [hoi, hjq]; simp [List.map_take, List.map_drop]
           refine Hp ?_;simp (disch := omega) only [List.length_map, Fv, hoe, hT, hD, hD2, Af, n8, n9, go_sem];refine ⟨k + 1, by omega, by omega, D3 70 rfl (Ak ?_ ?_)⟩
           · simp (disch := omega) only [go_sem]
           · simp (disch := omega) only [hI, hsn, A5, A3, Cd, go_sem]
   have n1 : ¬ e.kind = 1 := fun h => h12 (.inl h);have n2 : ¬ e.kind = 2 := fun h => h12 (.inr h);obtain ⟨r, hr8, hre⟩ : ∃ r : Nat, r < 8 ∧ e.rep - 1 = r := ⟨(e.rep - 1).toNat, by omega, by omega⟩
   by_cases h8 : e.kind = 8
   · have n9 : ¬ e.kind = 9 := by omega
     by_cases hq : Ht v e.rep < e.seq
     · have hs : D0 l (S, v) e = (Ic S e, Ba v e.rep e.seq) := by unfold D0; rw [if_neg h12, if_pos h8]; exact if_pos hq
       rw [hs] at hsn;have hS : Ic S e = { S with wards := E7 S.wards r e.ward } := by unfold Ic; rw [hre]; rfl
       rw [hS] at hsn;have hsp := Vt S hr8 e.ward (.sl false 15 (S.objs.map Ar)) (.sl false 15 (S.ents.map Bm));have hq' : ((Ht v e.rep : Nat) : Int) < (e.seq : Int) := by omega
       have hvl := Bi (Ba v e.rep e.seq);simp (disch := omega) only [Tf, hX, List.length_map, he, Bf, hel, Af, n1, n2, h8, Dc, Fx, go_sem];refine Aa (Pd v e.rep) ?_;simp (disch := omega) only [hq', Aq, go_sem];refine Aa (E8 _ _ _) ?_;simp (disch := omega) only [hvl, Dc, hre, Up, A5, A3, hsp, Af, h8, go_sem];refine Ad (k + 1) _ _ rfl (by omega) (by omega) ?_ ?_
       · simp (disch := omega) only [go_sem]
       · simp (disch := omega) only [hsn, Cd, go_sem];exact ⟨R0 { S with wards := E7 S.wards r e.ward }, rfl⟩
     · have hs : D0 l (S, v) e = (S, v) := by unfold D0; rw [if_neg h12, if_pos h8]; exact if_neg hq
       rw [hs] at hsn;have hq' : ¬ ((Ht v e.rep : Nat) : Int) < (e.seq : Int) := by omega
       simp (disch := omega) only [Tf, hX, List.length_map, he, Bf, hel, Af, n1, n2, h8, Dc, Fx, go_sem];refine Aa (Pd v e.rep) ?_;simp (disch := omega) only [hq', Af, h8, go_sem];refine Ad (k + 1) _ _ rfl (by omega) (by omega) ?_ ?_
       · simp (disch := omega) only [go_sem]
       · simp (disch := omega) only [hsn, Cd, A5, A3, go_sem]
   by_cases h9 : e.kind = 9
   · have hs : D0 l (S, v) e = (Oc S e, v) := by unfold D0; rw [if_neg h12, if_neg h8, if_pos h9]
     rw [hs] at hsn;have hS : Oc S e = { S with ret := E7 S.ret r true } := by unfold Oc; rw [hre]; rfl
     rw [hS] at hsn;have hsp := Aaf S hr8 true (.sl false 15 (S.objs.map Ar)) (.sl false 15 (S.ents.map Bm));simp (disch := omega) only [Tf, hX, List.length_map, he, Bf, hel, Af, n1, n2, h8, h9, Dc, hre, A5, A3, hsp, go_sem];refine Ad (k + 1) _ _ rfl (by omega) (by omega) ?_ ?_
     · simp (disch := omega) only [go_sem]
     · simp (disch := omega) only [hsn, Cd, go_sem];exact R0 { S with ret := E7 S.ret r true }
   · have hs : D0 l (S, v) e = (S, v) := by unfold D0; rw [if_neg h12, if_neg h8, if_neg h9]
     rw [hs] at hsn;simp (disch := omega) only [Tf, hX, List.length_map, he, Bf, hel, Af, n1, n2, h8, h9, go_sem];refine Ad (k + 1) _ _ rfl (by omega) (by omega) ?_ ?_
     · simp (disch := omega) only [go_sem]
     · simp (disch := omega) only [hsn, Cd, A5, A3, go_sem]
 obtain rfl : k = l.length := by omega
 have htk : l.take l.length = l := List.take_length;simp (disch := omega) only [Tf, Cd, A5, A3, List.length_map, htk, An, go_sem];refine Bk ?_;simp (disch := omega) only [go_sem]
theorem Ap4 {l : List Evt} {rk : Evt → Nat} {h d g} (hE : EvsOk l rk) (hB : ∀ e ∈ l, 1 ≤ e.rep ∧ e.rep ≤ 8) (hg : h g = some (.row 21 (l.map A9))) : FunOk Tryz.prog 15 [.os g] h d (.agg (A5 (An l))) [] :=
 FunOk.ioRow (fun h d hg => Akp hE hB hg) rfl rfl hg
theorem Af6 {l : List Obj} (hs : Eo l) (i : Bq) : Fa l i = l.find? fun o => decide (o.id = i) := by
 cases h : Fa l i with
 | some o =>
   obtain ⟨h1, h2⟩ := Gx h;symm;obtain ⟨hlt, hg⟩ := List.getElem?_eq_some_iff.1 h1;rw [List.find?_eq_some_iff_getElem];refine ⟨by simpa using h2, Cc l i, hlt, hg, fun j hj => ?_⟩;have := Nw hj (List.getElem?_eq_getElem (by omega));simp only [Bool.not_eq_true', decide_eq_false_iff_not];intro q;rw [q] at this;exact Gb this
 | none =>
   symm;rw [List.find?_eq_none];intro x hx q;have q : x.id = i := by simpa using q
   obtain ⟨j, hj⟩ := List.mem_iff_getElem?.1 hx;have h1 : ¬ j < Cc l i := fun hq => by
    have := Nw hq hj;rw [q] at this; exact Gb this
   by_cases e : j = Cc l i
   · unfold Fa at h;rw [← e, hj] at h;simp only at h;rw [if_pos q] at h; cases h
   · have hlt := (List.getElem?_eq_some_iff.1 hj).1;have hp : Cc l i < l.length := by omega
     have hy : l[Cc l i]? = some l[Cc l i] := List.getElem?_eq_getElem hp;have h3 := Ku hs hy hj (by omega);rw [q] at h3;exact Qb hs (Nat.le_refl _) hy h3
def Z6 (s : St) (i : Bq) (z : SV) (k : Nat) : FS := mk [(6, .pv (.i .i64 k)), (2, .p 2 0), (3, .p 3 0), (4, .p 4 0)] [(2, some (.var (.agg (A5 s)))), (3, some (.var (.vec 2 [.i .i64 i.1, .i .u32 i.2]))), (4, some (.var z))]
def Aks : Obj := ⟨(0, 0), false, (0, 0), [], fun _ => 0, []⟩
theorem Alf : Imp (.agg [.pv (.i .i64 0), .pv (.i .u32 0), .pv (.b false), .pv (.i .i64 0), .pv (.i .u32 0), .pv (.s []), .vec 8 (vE fun _ => 0), .pv (.sl true 0 [])]) (.vec 15 (Ar Aks)) :=
 fun V ρ v h => Alg (Aip Aks (.inl rfl)) V ρ v (Hi (n := 15) (cs := E9 true 0 Aks) (by rfl) (Eg _ _ _) V ρ v h)
set_option maxHeartbeats 1000000 in
theorem Aii {s : St} (i : Bq) (hs : Eo s.objs) {h d} (hn : s.objs.length ≤ 1000) : FunOk Tryz.prog 92 [.agg (A5 s), .vec 2 [.i .i64 i.1, .i .u32 i.2]] h d (.tup [.vec 15 (Ar ((Fa s.objs i).getD Aks)), .pv (.b (Fa s.objs i).isSome)]) [] := by
 refine N6 Ag fn92 (by simp) rfl rfl fun F => ?_;simp (disch := omega) only [ir92, A5, A3, go_sem];refine A1 Ag (Z6 s i Gg) (fun k => k ≤ s.objs.length ∧ ∀ j x, j < k → s.objs[j]? = some x → x.id ≠ i) (fun k => s.objs.length - k) 0 ⟨by simp, fun j x hj => absurd hj (Nat.not_lt_zero j)⟩ (Ak ?_ ?_) fun k hk => ?_
 · simp (disch := omega) only [go_sem]
 · simp (disch := omega) only [Gg, A5, A3, go_sem]
 obtain ⟨hk1, hk2⟩ := hk;rw [Af6 hs];by_cases hlt : k < s.objs.length
 · have hx : s.objs[k]? = some s.objs[k] := List.getElem?_eq_getElem hlt;have he : (s.objs.map Ar)[k]? = some (Ar s.objs[k]) := by rw [List.getElem?_map, hx]; rfl
   have hgk : s.objs[k] = s.objs[k] := rfl;generalize hO : s.objs[k] = o at *;have hol := Et o;by_cases hb : o.id = i
   · have hp := Fd hb;have hf : s.objs.find? (fun o => decide (o.id = i)) = some o := by
      rw [List.find?_eq_some_iff_getElem];refine ⟨by simpa using hb, k, hlt, hO, fun j hj => ?_⟩;simpa using hk2 j _ hj (List.getElem?_eq_getElem (by omega))
     rw [hf];simp (disch := omega) only [Z6, Gg, A5, A3, List.length_map, he, Hf, Ae, Bp, hp, Fv, hol, go_sem];refine Bk ?_;simp (disch := omega) only [go_sem];exact Imp.refl _
   · have hp := Fe hb;simp (disch := omega) only [Z6, Gg, A5, A3, List.length_map, he, Hf, Ae, Bp, hp, go_sem];refine Ad (k + 1) _ _ rfl ⟨by omega, fun j x hj hjx => ?_⟩ (by omega) ?_ ?_
     · by_cases ej : j = k
       · subst ej; rw [hx] at hjx; cases hjx; exact hb
       · exact hk2 j x (by omega) hjx
     · simp (disch := omega) only [go_sem]
     · simp (disch := omega) only [Gg, A5, A3, go_sem]
 · obtain rfl : k = s.objs.length := by omega
   have hf : s.objs.find? (fun o => decide (o.id = i)) = none := by
    rw [List.find?_eq_none];intro x hx;obtain ⟨j, hj⟩ := List.mem_iff_getElem?.1 hx;simpa using hk2 j x (List.getElem?_eq_some_iff.1 hj).1 hj
   rw [hf];simp (disch := omega) only [Z6, Gg, A5, A3, List.length_map, go_sem];refine Bk ?_;simp (disch := omega) only [go_sem];exact T9 Alf
theorem Avx {s : St} (i : Bq) (hs : Eo s.objs) {h d} (hn : s.objs.length ≤ 1000) : FunOk Tryz.prog 91 [.agg (A5 s), .vec 2 [.i .i64 i.1, .i .u32 i.2]] h d (.pv (.i .i64 (Kp s.objs i))) [] := by
 refine Ap Ag fn91 (by simp) rfl rfl fun F => ?_;have hd := Agz (l := s.objs) i;have ho := Aii (s := s) i hs hn (h := fun _ => none) (d := 0);rw [show A5 s = [.vec 8 (vE s.known), .pv (.sl false 15 (s.objs.map Ar)), .pv (.sl false 15 (s.ents.map Bm)), .vec 8 (iE s.wards), .vec 8 (wE s.ret)] from rfl] at ho;simp (disch := omega) only [ir91, A5, A3, go_sem];refine Aa (Apa _ _) ?_;by_cases h0 : i = (0, 0)
 · have hz : Cj i.1 i.2 = true := decide_eq_true (Ab1 h0);rw [if_pos h0] at hd;simp (disch := omega) only [hz, hd, go_sem]
 · have hz : Cj i.1 i.2 = false := decide_eq_false fun e => h0 (Prod.ext e.1 e.2);rw [if_neg h0] at hd;simp (disch := omega) only [hz, go_sem];refine Aa (ho.at (by simp [A6, tn])) ?_;cases hA : Fa s.objs i with
   | none =>
     rw [hA] at hd;simp only at hd;have hol := Et Aks;simp (disch := omega) only [Option.isSome_none, hol, hd, go_sem]
   | some o =>
     rw [hA] at hd;simp only at hd;have hol := Et o;by_cases hdd : o.dir = true
     · rw [if_pos hdd] at hd;simp (disch := omega) only [Option.isSome_some, Option.getD_some, hol, Ev, hdd, hd, go_sem]
     · have hdd' : o.dir = false := by simpa using hdd
       rw [if_neg hdd] at hd;simp (disch := omega) only [Option.isSome_some, Option.getD_some, hol, Ev, hdd', hd, go_sem]
theorem Aej {e : Evt} (h : Bo e = true) (hk : e.kind = 3 ∨ e.kind = 4 ∨ e.kind = 5) : ∀ b ∈ e.base.l, Bh e.dep b.1 b.2 = true := by
 unfold Bo at h;simp only [Bool.and_eq_true, decide_eq_true_eq] at h;have hK := h.2.2.2;have key : ∀ m, Eh e.base.l m e.dep = true → ∀ b ∈ e.base.l, Bh e.dep b.1 b.2 = true := fun m hm b hb => by
  unfold Eh G5 at hm;simp only [Bool.and_eq_true, decide_eq_true_eq] at hm;obtain ⟨j, hj⟩ := List.mem_iff_getElem?.1 hb;obtain ⟨hlt, hg⟩ := List.getElem?_eq_some_iff.1 hj;have := (hm.2 j hlt).1;rw [hg] at this; exact this
 rcases hk with h3 | h3 | h3
 · rw [J7 h3] at hK;simp only [Bool.and_eq_true] at hK;exact key _ hK.2.1
 · rw [N3 h3] at hK;simp only [Bool.and_eq_true] at hK;exact key _ hK.2.1
 · rw [N2 h3] at hK;simp only [Bool.and_eq_true] at hK;exact key _ hK.2.1
theorem Ad5 {a : Vc} {r : Int} {q : Nat} (h : Bh a r q = true) : 1 ≤ q ∧ 1 ≤ r ∧ r ≤ 8 ∧ q ≤ a (r - 1).toNat := by
 unfold Bh Ht at h;simp only [decide_eq_true_eq] at h;by_cases hr : 1 ≤ r ∧ r ≤ 8
 · rw [if_pos hr] at h; exact ⟨h.1, hr.1, hr.2, h.2⟩
 · rw [if_neg hr] at h; omega
def An0 (s : St) (e : Evt) (o : Obj) (k : Nat) : FS := mk [(7, .pv (.i .i64 k)), (2, .p 2 0), (3, .p 3 0), (5, .p 5 0), (4, .pv (.i .i64 0))] [(2, some (.var (.agg (A5 s)))), (3, some (.var (.vec 21 (A9 e)))), (5, some (.var (.vec 15 (Ar o))))]
set_option maxHeartbeats 8000000 in
theorem Ay6 {s : St} {e : Evt} (hs : StIn s) (he : ev e) (hdep : ∀ i, i < 8 → e.dep i < 4294967296) {h d} : FunOk Tryz.prog 50 [.agg (A5 s), .vec 21 (A9 e)] h d (.pv (.i .i64 (Ed s e))) [] := by
 refine Ap Ag fn50 (by simp) rfl rfl fun F => ?_;have a1 := hs.fine.on;have hS : A5 s = [.vec 8 (vE s.known), .pv (.sl false 15 (s.objs.map Ar)), .pv (.sl false 15 (s.ents.map Bm)), .vec 8 (iE s.wards), .vec 8 (wE s.ret)] := rfl;have hO := Aii (s := s) (Az e) hs.so (by omega) (h := fun _ => none) (d := 0);have hD := Avx (s := s) (Hl e) hs.so (by omega) (h := fun _ => none) (d := 0);rw [hS] at hO hD;simp (disch := omega) only [ir50, A5, A3, Bf, go_sem];refine Aa (Ap3 e he hdep) ?_;by_cases hc' : Bo e = false
 · have hw : Ed s e = 7 := if_pos hc';simp (disch := omega) only [hc', hw, go_sem]
 have hc : Bo e = true := by simpa using hc'
 have hb := Cx hc;obtain ⟨b1, b2, b3, b4, b5, b6, b7⟩ := hb;simp (disch := omega) only [hc, Aq, Fb, go_sem];refine Aa (Kl _ _ _) ?_;by_cases h1 : Bh s.known e.rep e.seq = true
 · have hw : Ed s e = 11 := by unfold Ed; rw [if_neg hc', if_pos h1]
   simp (disch := omega) only [h1, hw, go_sem]
 have h1' : Bh s.known e.rep e.seq = false := by simpa using h1
 simp (disch := omega) only [h1', Fb, go_sem];refine Aa (Apl _ _) ?_;by_cases h2 : Rn e.dep s.known;rotate_left
 · have hw : Ed s e = 10 := by unfold Ed; rw [if_neg hc', if_neg h1, if_pos h2]
   have h2' := decide_eq_false h2;simp (disch := omega) only [h2', hw, go_sem]
 have h2' := decide_eq_true h2;obtain ⟨k, hk8, hre⟩ : ∃ k : Nat, k < 8 ∧ e.rep - 1 = k := ⟨(e.rep - 1).toNat, by omega, by omega⟩
 have hld := fun (a b : PV) (w : Nat → Int) (r : Nat → Bool) (K : KK) => Aiy a b w r hk8 K;simp (disch := omega) only [h2', Dc, hre, hld, go_sem];by_cases h3 : s.ret k = true
 · have hw : Ed s e = 28 := by unfold Ed; rw [if_neg hc', if_neg h1, if_neg (by simpa using h2), if_pos (by rw [hre]; exact h3)]
   simp (disch := omega) only [h3, hw, go_sem]
 have h3' : s.ret k = false := by simpa using h3
 have hw : Ed s e = T0 s e := by unfold Ed; rw [if_neg hc', if_neg h1, if_neg (by simpa using h2), if_neg (by rw [hre]; exact h3)]
 unfold T0 at hw;by_cases h89 : e.kind = 8 ∨ e.kind = 9
 · rw [if_pos h89] at hw;rcases h89 with h8 | h9
   · simp (disch := omega) only [h3', Af, h8, hw, go_sem]
   · have n8 : ¬ e.kind = 8 := by omega
     simp (disch := omega) only [h3', Af, n8, h9, hw, go_sem]
 rw [if_neg h89] at hw;have n8 : ¬ e.kind = 8 := fun q => h89 (.inl q);have n9 : ¬ e.kind = 9 := fun q => h89 (.inr q);by_cases h12 : e.kind = 1 ∨ e.kind = 2
 · rw [if_pos h12] at hw;rcases h12 with h1k | h2k
   · simp (disch := omega) only [h3', Af, n8, n9, h1k, Dl, go_sem];refine Aa (hD.at (by simp [A6, tn])) ?_;simp (disch := omega) only [hw, go_sem]
   · have n1 : ¬ e.kind = 1 := by omega
     simp (disch := omega) only [h3', Af, n8, n9, n1, h2k, Dl, go_sem];refine Aa (hD.at (by simp [A6, tn])) ?_;simp (disch := omega) only [hw, go_sem]
 rw [if_neg h12] at hw;have n1 : ¬ e.kind = 1 := fun q => h12 (.inl q);have n2 : ¬ e.kind = 2 := fun q => h12 (.inr q);simp (disch := omega) only [h3', Af, n8, n9, n1, n2, A8, go_sem];refine Aa (hO.at (by simp [A6, tn])) ?_;cases hA : Fa s.objs (Az e) with
 | none =>
   rw [hA] at hw;simp only at hw;have hol := Et Aks;simp (disch := omega) only [Option.isSome_none, Option.getD_none, hol, hw, go_sem]
 | some o =>
   rw [hA] at hw;simp only at hw;have hol := Et o;by_cases h7 : e.kind = 7
   · rw [if_pos h7] at hw;simp (disch := omega) only [Option.isSome_some, Option.getD_some, hol, Af, h7, Dl, go_sem];refine Aa (hD.at (by simp [A6, tn])) ?_;simp (disch := omega) only [hw, go_sem]
   rw [if_neg h7] at hw;by_cases h6 : e.kind = 6
   · rw [if_pos h6] at hw;simp (disch := omega) only [Option.isSome_some, Option.getD_some, hol, Af, h7, h6, hw, go_sem]
   rw [if_neg h6] at hw;by_cases hd : o.dir = true
   · rw [if_pos hd] at hw;simp (disch := omega) only [Option.isSome_some, Option.getD_some, hol, Af, h7, h6, Ev, hd, hw, go_sem]
   rw [if_neg hd] at hw;have hd' : o.dir = false := by simpa using hd
   have hk345 : e.kind = 3 ∨ e.kind = 4 ∨ e.kind = 5 := by omega
   have hb1 := Aej hc hk345;have hbl := Oy hc hk345;have hom := List.mem_of_getElem? (Gx hA).1;have hov := hs.fine.ov o hom;have hpv : e.base.pv = .sl e.base.f e.base.z (e.base.l.map Eb) := rfl;simp (disch := omega) only [Option.isSome_some, Option.getD_some, hol, Af, h7, h6, Ev, hd', go_sem];refine A1 Ag (An0 s e o) (fun k => k ≤ e.base.l.length ∧ ∀ j b, j < k → e.base.l[j]? = some b → Bs o.vers b.1 b.2 ≠ none) (fun k => e.base.l.length - k) 0 ⟨by simp, fun j b hj => absurd hj (Nat.not_lt_zero j)⟩ (Ak ?_ ?_) fun k hk => ?_
   · simp (disch := omega) only [go_sem]
   · simp (disch := omega) only [A5, A3, go_sem]
   obtain ⟨hk1, hk2⟩ := hk;by_cases hlt : k < e.base.l.length
   · have hx : e.base.l[k]? = some e.base.l[k] := List.getElem?_eq_getElem hlt;have hel : (e.base.l.map Eb)[k]? = some (Eb e.base.l[k]) := by rw [List.getElem?_map, hx]; rfl
     have hz2 : e.base.z = 2 := he.2.1.resolve_left fun q => by rw [q] at hlt; simp at hlt
     have hbm := List.getElem_mem hlt;have hbz := Ad5 (hb1 _ hbm);generalize e.base.l[k] = b at *;have hnz : ¬ (b.1 = 0 ∧ b.2 = 0) := by omega
     simp (disch := omega) only [An0, A5, A3, Fk, hpv, List.length_map, hz2, hel, El, E2, go_sem];refine Aa (Aim (l := o.vers) b.1 b.2 rfl rfl (by omega)) ?_;cases hf : Bs o.vers b.1 b.2 with
     | none =>
       have hm : Di o.vers e.base.l := ⟨b, hbm, hf⟩
       rw [if_pos hm] at hw;have hdv := Q7 hnz hf;simp (disch := omega) only [hdv, hw, go_sem]
     | some v =>
       have hdv := L6 hnz hf;simp (disch := omega) only [hdv, go_sem];refine Ad (k + 1) _ _ rfl ⟨by omega, fun j c hj hjc => ?_⟩ (by omega) ?_ ?_
       · by_cases ej : j = k
         · subst ej; rw [hx] at hjc; cases hjc; rw [hf]; simp
         · exact hk2 j c (by omega) hjc
       · simp (disch := omega) only [go_sem]
       · simp (disch := omega) only [A5, A3, go_sem]
   · obtain rfl : k = e.base.l.length := by omega
     have hm : ¬ Di o.vers e.base.l := fun ⟨b, hbm, hf⟩ => by
      obtain ⟨j, hj⟩ := List.mem_iff_getElem?.1 hbm;exact hk2 j b (List.getElem?_eq_some_iff.1 hj).1 hj hf
     rw [if_neg hm] at hw;simp (disch := omega) only [An0, A5, A3, Fk, hpv, List.length_map, hw, go_sem]
def vid (v : Ver) : Bq := (v.rep, v.seq)
def Ot (bs : List Bq) (r : Int) (q : Nat) (x : Ver) : Ver := if (x.rep, x.seq) ∈ bs then Eu x r q else x
theorem Aa1 (l : List Ver) (bs : List Bq) (r : Int) (q : Nat) : Du l bs r q = l.map (Ot bs r q) := rfl
theorem Adm (bs : List Bq) (r : Int) (q : Nat) (x : Ver) : vid (Ot bs r q x) = vid x := by
 have := Gt x bs r q;simp only [vid, Ot, this.1, this.2]
theorem Aqr {l : List Ver} {bs : List Bq} {v x : Ver} : x ∈ Fo l bs v ↔ x = v ∨ ∃ y ∈ l, x = Ot bs v.rep v.seq y := by
 unfold Fo;rw [Aa1];have h : ∀ p, x ∈ (l.map (Ot bs v.rep v.seq)).take p ++ v :: (l.map (Ot bs v.rep v.seq)).drop p ↔ x = v ∨ x ∈ l.map (Ot bs v.rep v.seq) := fun p => by
  conv => rhs; rw [← List.take_append_drop p (l.map (Ot bs v.rep v.seq))]
  simp only [List.mem_append, List.mem_cons];constructor
  · rintro (h | h | h)
    · exact .inr (.inl h)
    · exact .inl h
    · exact .inr (.inr h)
  · rintro (h | h | h)
    · exact .inr (.inl h)
    · exact .inl h
    · exact .inr (.inr h)
 rw [h, List.mem_map];exact or_congr_right ⟨fun ⟨y, h1, h2⟩ => ⟨y, h1, h2.symm⟩, fun ⟨y, h1, h2⟩ => ⟨y, h1, h2.symm⟩⟩
theorem Ate {l : List Ver} {r : Int} {q : Nat} (h : Bs l r q = none) : ∃ p, Pu l r q 0 = (p, false) := by
 rcases ha : Pu l r q 0 with ⟨p, b⟩
 cases b with
 | false => exact ⟨p, rfl⟩
 | true => obtain ⟨_, u, _, _, h4⟩ := Ip ha; rw [h] at h4; cases h4
theorem Aey {l : List Ver} {bs : List Bq} {v : Ver} (hs : Cv l) (h : Bs l v.rep v.seq = none) : Cv (Fo l bs v) := by
 obtain ⟨p, hp⟩ := Ate h;obtain ⟨_, g2, g3, g4, g5, g6⟩ := H4 hs hp;rw [Nat.sub_zero] at g2 g5 g6;have hM := Qk (bs := bs) (r := v.rep) (q := v.seq) hs;unfold Fo;rw [hp];simp only;have h5 : ∀ x ∈ (Du l bs v.rep v.seq).take p, Cm x.rep x.seq v.rep v.seq = true := fun x hx => by
  rw [Aa1, ← List.map_take] at hx;obtain ⟨y, hy, rfl⟩ := List.mem_map.1 hx;have := Adm bs v.rep v.seq y;simp only [vid, Prod.mk.injEq] at this;rw [this.1, this.2]; exact g5 y hy
 have h6 : ∀ x ∈ (Du l bs v.rep v.seq).drop p, Cm v.rep v.seq x.rep x.seq = true := fun x hx => by
  rw [Aa1, ← List.map_drop] at hx;obtain ⟨y, hy, rfl⟩ := List.mem_map.1 hx;have := Adm bs v.rep v.seq y;simp only [vid, Prod.mk.injEq] at this;rw [this.1, this.2]; exact g6 y hy
 refine List.pairwise_append.2 ⟨List.Pairwise.sublist (List.take_sublist _ _) hM, List.pairwise_cons.2 ⟨h6, List.Pairwise.sublist (List.drop_sublist _ _) hM⟩, fun a ha b hb => ?_⟩;rcases List.mem_cons.1 hb with rfl | hb
 · exact h5 a ha
 · exact Pl (h5 a ha) (h6 b hb)
theorem Vy {α : Type} {P : List α → Prop} (h0 : P []) (h1 : ∀ l a, P l → P (l ++ [a])) : ∀ l, P l := by
 have key : ∀ n, ∀ l : List α, l.length = n → P l := by
  intro n
  induction n with
  | zero => intro l hl; rw [List.eq_nil_of_length_eq_zero hl]; exact h0
  | succ n ih =>
    intro l hl;have hne : l ≠ [] := fun e => by subst e; simp at hl
    rw [← List.dropLast_concat_getLast hne];exact h1 _ _ (ih _ (by simp [hl]))
 exact fun l => key _ l rfl
theorem Aak {α : Type} {r : α → α → Prop} (ha : ∀ a b, r a b → r b a → False) : ∀ {l m : List α}, l.Pairwise r → m.Pairwise r → (∀ a, a ∈ l ↔ a ∈ m) → l = m
 | [], [], _, _, _ => rfl
 | [], y :: m, _, _, h => by have := (h y).2 List.mem_cons_self; cases this
 | x :: l, [], _, _, h => by have := (h x).1 List.mem_cons_self; cases this
 | x :: l, y :: m, hl, hm, h => by
   obtain ⟨h1, h2⟩ := List.pairwise_cons.1 hl;obtain ⟨k1, k2⟩ := List.pairwise_cons.1 hm;have ex : x = y := by
    rcases List.mem_cons.1 ((h x).1 List.mem_cons_self) with a | a
    · exact a
    · rcases List.mem_cons.1 ((h y).2 List.mem_cons_self) with b | b
      · exact b.symm
      · exact (ha _ _ (h1 y b) (k1 x a)).elim
   subst ex;congr 1;refine Aak ha h2 k2 fun a => ?_;have ne : ∀ {n : List α}, (∀ b ∈ n, r x b) → x ∉ n := fun hn hx => ha x x (hn x hx) (hn x hx);constructor
   · intro hq;rcases List.mem_cons.1 ((h a).1 (List.mem_cons_of_mem _ hq)) with e | e
     · subst e; exact absurd hq (ne h1)
     · exact e
   · intro hq;rcases List.mem_cons.1 ((h a).2 (List.mem_cons_of_mem _ hq)) with e | e
     · subst e; exact absurd hq (ne k1)
     · exact e
theorem Nv {l m : List Ent} (hl : Ds l) (hm : Ds m) (h : ∀ x, x ∈ l ↔ x ∈ m) : l = m := Aak (fun a b h k => M6 h k) hl hm h
theorem Yf {l m : List Ver} (hl : Cv l) (hm : Cv m) (h : ∀ x, x ∈ l ↔ x ∈ m) : l = m := Aak (fun a b h k => M6 (a := (a.rep, a.seq)) (b := (b.rep, b.seq)) h k) hl hm h
theorem Vw {l : List Obj} : Eo l ↔ l.Pairwise fun a b => H8 a.id b.id = true := by
 unfold Eo Ds; rw [List.pairwise_map]; exact Iff.rfl
theorem R3 {l m : List Obj} (hl : Eo l) (hm : Eo m) (h : ∀ x, x ∈ l ↔ x ∈ m) : l = m := Aak (fun a b h k => M6 h k) (Vw.1 hl) (Vw.1 hm) h
structure Acc (s : St) (e : Evt) : Prop where
 ck : Bo e = true
 new : Bh s.known e.rep e.seq = false
 dep : Rn e.dep s.known
 ret : s.ret (e.rep - 1).toNat = false
 why : T0 s e = 0
theorem Ri {s : St} {e : Evt} : Ed s e = 0 ↔ Acc s e := by
 unfold Ed;constructor
 · intro h;split at h
   · cases h
   · split at h
     · cases h
     · split at h
       · cases h
       · split at h
         · cases h
         · rename_i h1 h2 h3 h4;exact ⟨by simpa using h1, by simpa using h2, by simpa using h3, by simpa using h4, h⟩
 · intro ⟨h1, h2, h3, h4, h5⟩;rw [if_neg (by rw [h1]; simp), if_neg (by rw [h2]; simp), if_neg (fun q => q h3), if_neg (by rw [h4]; simp)];exact h5
inductive Val : List Evt → Prop
 | nil : Val []
 | snoc {l : List Evt} {e : Evt} : Val l → ev e → Ed (An l) e = 0 → Val (l ++ [e])
theorem Ef (l : List Evt) : (An l).known = Bn l := (Aen l l).2
theorem N9 (l : List Evt) : (An l).ents = C3 l l := (Aen l l).1
theorem Val.inv {l : List Evt} {e : Evt} (h : Val (l ++ [e])) : Val l ∧ ev e ∧ Ed (An l) e = 0 := by
 generalize hm : l ++ [e] = m at h;cases h with
 | nil => simp at hm
 | snoc a b c =>
   obtain ⟨rfl, h2⟩ := List.append_inj' hm rfl;cases h2;exact ⟨a, b, c⟩
theorem Val.pre {l m : List Evt} : Val (l ++ m) → Val l :=
 Vy (P := fun m => Val (l ++ m) → Val l) (fun h => by simpa using h) (fun m e ih h => by
  rw [← List.append_assoc] at h;exact ih h.inv.1) m
theorem M7 {a : Vc} {i : Bq} : Bh a i.1 i.2 = true ↔ 1 ≤ i.2 ∧ 1 ≤ i.1 ∧ i.1 ≤ 8 ∧ i.2 ≤ a (i.1 - 1).toNat := by
 refine ⟨Ad5, fun ⟨h1, h2, h3, h4⟩ => ?_⟩;unfold Bh Ht; rw [if_pos ⟨h2, h3⟩]; exact decide_eq_true ⟨h1, h4⟩
theorem Pz {v : Vc} {r : Int} {q : Nat} (hr : 1 ≤ r ∧ r ≤ 8) (i : Nat) : Ba v r q i = if i = (r - 1).toNat then max (v i) q else v i := by
 unfold Ba E7; rw [if_pos hr]; split
 · rename_i h; rw [h]
 · rfl
theorem Zw {v : Vc} {r : Int} {q : Nat} (i : Nat) : v i ≤ Ba v r q i := by
 by_cases hr : 1 ≤ r ∧ r ≤ 8
 · rw [Pz hr]; split <;> omega
 · unfold Ba; rw [if_neg hr]; exact Nat.le_refl _
theorem Aro {a b : Vc} (h : ∀ i, i < 8 → a i ≤ b i) {i : Bq} (k : Bh a i.1 i.2 = true) : Bh b i.1 i.2 = true := by
 rw [M7] at k ⊢;have := h (i.1 - 1).toNat (by omega);omega
theorem Ae0 {s : St} {e : Evt} (h : Acc s e) : 1 ≤ e.rep ∧ e.rep ≤ 8 ∧ e.seq = s.known (e.rep - 1).toNat + 1 := by
 obtain ⟨b1, b2, b3, b4, b5, b6, b7⟩ := Cx h.ck;have h1 := h.dep (e.rep - 1).toNat (by omega);have h2 : ¬ Bh s.known e.rep e.seq = true := by rw [h.new]; simp
 rw [show Bh s.known e.rep e.seq = Bh s.known (Ah e).1 (Ah e).2 from rfl, M7] at h2;simp only at h2;omega
theorem Val.known {l : List Evt} (h : Val l) : NodE l ∧ ∀ i : Bq, Bh (Bn l) i.1 i.2 = true ↔ ∃ e ∈ l, Ah e = i := by
 induction h with
 | nil => exact ⟨List.nodup_nil, fun i => by rw [M7]; simp [Bn]; omega⟩
 | @snoc l e hl he hw ih =>
   have ha := Ri.1 hw;obtain ⟨n1, n2, n3⟩ := Ae0 ha;have hb := Cx ha.ck;rw [Ef] at n3;have hnew : ¬ ∃ f ∈ l, Ah f = Ah e := fun q => by
    have := (ih.2 (Ah e)).2 q;have h2 := ha.new;rw [Ef] at h2;rw [show Bh (Bn l) (Ah e).1 (Ah e).2 = Bh (Bn l) e.rep e.seq from rfl, h2] at this;cases this
   refine ⟨?_, fun i => ?_⟩
   · unfold NodE;rw [List.map_append, List.nodup_append];refine ⟨ih.1, by simp, fun a hm b hb q => hnew ?_⟩;obtain ⟨f, hf, rfl⟩ := List.mem_map.1 hm;simp at hb;exact ⟨f, hf, by rw [q, hb]⟩
   · rw [J6];have key : Bh (Ba (Bn l) e.rep e.seq) i.1 i.2 = true ↔ Bh (Bn l) i.1 i.2 = true ∨ i = Ah e := by
      rw [M7, M7, Pz ⟨n1, n2⟩];by_cases hi : i = Ah e
      · subst hi;simp only [or_true, iff_true];refine ⟨hb.2.2.1, n1, n2, ?_⟩;simp only [if_true]; exact Nat.le_max_right _ _
      · simp only [hi, or_false];by_cases hr : i.1 = e.rep
        · have hq : i.2 ≠ e.seq := fun q => hi (Prod.ext hr q);rw [hr, if_pos rfl];omega
        · constructor
          · rintro ⟨a, b, c, d⟩;rw [if_neg (by omega)] at d;exact ⟨a, b, c, d⟩
          · rintro ⟨a, b, c, d⟩;rw [if_neg (by omega)];exact ⟨a, b, c, d⟩
     rw [key, ih.2];constructor
     · rintro (⟨f, hf, q⟩ | q)
       · exact ⟨f, by simp [hf], q⟩
       · exact ⟨e, by simp, q.symm⟩
     · rintro ⟨f, hf, q⟩;rcases List.mem_append.1 hf with hf | hf
       · exact .inl ⟨f, hf, q⟩
       · rw [List.mem_singleton] at hf; subst hf; exact .inr q.symm
theorem Val.nod {l : List Evt} (h : Val l) : NodE l := h.known.1
theorem Val.has {l : List Evt} (h : Val l) {i : Bq} : Bh (Bn l) i.1 i.2 = true ↔ ∃ e ∈ l, Ah e = i := h.known.2 i
theorem Val.mem {l : List Evt} (h : Val l) {e : Evt} (he : e ∈ l) : ∃ a b, l = a ++ e :: b ∧ Val a ∧ ev e ∧ Acc (An a) e := by
 obtain ⟨a, b, rfl⟩ := List.append_of_mem he;have h2 : Val ((a ++ [e]) ++ b) := by rw [List.append_assoc]; exact h
 obtain ⟨h3, h4, h5⟩ := h2.pre.inv;exact ⟨a, b, rfl, h3, h4, Ri.1 h5⟩
theorem U5 {l : List Evt} (h : Val l) {e : Evt} (ha : Acc (An l) e) {i : Bq} (k : Bh e.dep i.1 i.2 = true) : ∃ f ∈ l, Ah f = i := by
 refine h.has.1 (Aro (fun j hj => ?_) k);have := ha.dep j hj
 rwa [Ef] at this
theorem Gu {l : List Evt} (h : Val l) {e : Evt} (ha : Acc (An l) e) : ∀ f ∈ l, Ah f ≠ Ah e := fun f hf q => by
 have h1 := h.has.2 ⟨f, hf, q⟩;have h2 := ha.new;rw [Ef] at h2;rw [show Bh (Bn l) (Ah e).1 (Ah e).2 = Bh (Bn l) e.rep e.seq from rfl, h2] at h1;cases h1
theorem Ai6 {e : Evt} {l : List Bq} {n : Int} (h : Eh l n e.dep = true) : ∀ b ∈ l, Bh e.dep b.1 b.2 = true := fun b hb => by
 unfold Eh G5 at h;simp only [Bool.and_eq_true, decide_eq_true_eq] at h;obtain ⟨j, hj⟩ := List.mem_iff_getElem?.1 hb;obtain ⟨hlt, hg⟩ := List.getElem?_eq_some_iff.1 hj;have := (h.2 j hlt).1;rw [hg] at this; exact this
theorem Nd {e : Evt} (h : Bo e = true) : Gh e = true ∧ Cs (Cr e) = true := by
 unfold Bo at h;simp only [Bool.and_eq_true, decide_eq_true_eq] at h;exact ⟨h.2.2.2, h.2.2.1⟩
theorem Xd {e : Evt} (h : Bo e = true) (hk : e.kind = 6 ∨ e.kind = 7) : ∀ b ∈ e.gone.l, Bh e.dep b.1 b.2 = true := by
 have hK := (Nd h).1;rcases hk with k | k
 · rw [Ur k] at hK; simp only [Bool.and_eq_true] at hK; exact Ai6 hK.2
 · rw [Uq k] at hK; simp only [Bool.and_eq_true] at hK; exact Ai6 hK.2.1
theorem Ami {e : Evt} (h : Bo e = true) (hk : e.kind = 3 ∨ e.kind = 4 ∨ e.kind = 5 ∨ e.kind = 6 ∨ e.kind = 7) : Bh e.dep e.orep e.oseq = true := by
 have hK := (Nd h).1;rcases hk with k | k | k | k | k
 · rw [J7 k] at hK; simp only [Bool.and_eq_true] at hK; exact hK.1
 · rw [N3 k] at hK; simp only [Bool.and_eq_true] at hK; exact hK.1
 · rw [N2 k] at hK; simp only [Bool.and_eq_true] at hK; exact hK.1
 · rw [Ur k] at hK; simp only [Bool.and_eq_true] at hK; exact hK.1
 · rw [Uq k] at hK; simp only [Bool.and_eq_true] at hK; exact hK.1
theorem Xc {e : Evt} (h : Bo e = true) (hk : ¬ (e.kind = 3 ∨ e.kind = 4 ∨ e.kind = 5 ∨ e.kind = 6 ∨ e.kind = 7)) : Az e = (0, 0) := by
 obtain ⟨b1, b2, b3, b4, b5, b6, b7⟩ := Cx h;have hz := (Nd h).2;have h4 : e.kind = 1 ∨ e.kind = 2 ∨ e.kind = 8 ∨ e.kind = 9 := by omega
 have hz' : Cj e.orep e.oseq = true := by
  rcases h4 with k | k | k | k
  · rw [Aue k] at hz; simp only [Am, Bool.and_eq_true, Bool.or_eq_true, Bool.false_eq_true, false_or] at hz; exact hz.1
  · rw [Azl k] at hz; simp only [Am, Bool.and_eq_true, Bool.or_eq_true, Bool.false_eq_true, false_or] at hz; exact hz.1
  · rw [Azk k] at hz; simp only [Am, Bool.and_eq_true, Bool.or_eq_true, Bool.false_eq_true, false_or] at hz; exact hz.1
  · rw [Azj k] at hz; simp only [Am, Bool.and_eq_true, Bool.or_eq_true, Bool.false_eq_true, false_or] at hz; exact hz.1
 obtain ⟨h1, h2⟩ := of_decide_eq_true hz';exact Prod.ext h1 h2
theorem Av7 {l : List Evt} {e : Evt} (h : Val l) (ha : Acc (An l) e) (obj : Bq) {g : Evt} (hg : g ∈ l ++ [e]) : Hv g obj (Ah e) = false := by
 cases hq : Hv g obj (Ah e) with
 | false => rfl
 | true =>
   unfold Hv at hq;simp only [Bool.and_eq_true, decide_eq_true_eq] at hq;rcases List.mem_append.1 hg with hg | hg
   · obtain ⟨a, b, rfl, h1, _, h3⟩ := h.mem hg;obtain ⟨f, hf, hi⟩ := U5 h1 h3 (Xd h3.ck hq.1 _ hq.2.2);exact absurd hi (Gu h ha f (by simp [hf]))
   · rw [List.mem_singleton] at hg; subst hg;obtain ⟨f, hf, hi⟩ := U5 h ha (Xd ha.ck hq.1 _ hq.2.2);exact absurd hi (Gu h ha f hf)
theorem Aqf {l : List Evt} {e : Evt} (h : Val l) (ha : Acc (An l) e) {g : Evt} (hg : g ∈ l ++ [e]) : Az g ≠ Ah e := fun q => by
 have base := Cx ha.ck;have hne : ∀ {g : Evt}, Bo g = true → Az g = Ah e → Bh g.dep g.orep g.oseq = true := fun {g} hc q => by
  refine Ami hc (Classical.byContradiction fun hk => ?_);have := Xc hc hk;rw [this] at q;have q1 : (0 : Int) = e.rep := congrArg Prod.fst q;have := base.1;omega
 rcases List.mem_append.1 hg with hg | hg
 · obtain ⟨a, b, rfl, h1, _, h3⟩ := h.mem hg;obtain ⟨f, hf, hi⟩ := U5 h1 h3 (i := Az g) (hne h3.ck q);rw [q] at hi;exact absurd hi (Gu h ha f (by simp [hf]))
 · rw [List.mem_singleton] at hg; subst hg;obtain ⟨f, hf, hi⟩ := U5 h ha (i := Az g) (hne ha.ck q);rw [q] at hi;exact absurd hi (Gu h ha f hf)
theorem Si {l : List Evt} : ∀ m : List Evt, NodE m → Ds (C3 l m) ∧ ∀ x, x ∈ C3 l m ↔ ∃ e ∈ m, mkB e = true ∧ x = Da l e := by
 refine Vy (fun _ => ⟨List.Pairwise.nil, by simp [C3]⟩) fun m e ih hn => ?_;have hn' : NodE m := by unfold NodE at *; rw [List.map_append] at hn; exact hn.sublist (List.sublist_append_left _ _)
 obtain ⟨h1, h2⟩ := ih hn';have grow : ∀ x : Ent, (∃ f ∈ m ++ [e], mkB f = true ∧ x = Da l f) ↔ (∃ f ∈ m, mkB f = true ∧ x = Da l f) ∨ (mkB e = true ∧ x = Da l e) := fun o => by
  simp only [List.mem_append, List.mem_singleton];constructor
  · rintro ⟨f, hf | rfl, h⟩
    · exact .inl ⟨f, hf, h⟩
    · exact .inr h
  · rintro (⟨f, hf, h⟩ | h)
    · exact ⟨f, .inl hf, h⟩
    · exact ⟨e, .inr rfl, h⟩
 rw [Pp];by_cases hm : mkB e = true
 · rw [if_pos hm, Yi h1];have hnew : Hq (C3 l m) (Da l e).id = none := F9.2 fun x hx q => by
    obtain ⟨f, hf, _, rfl⟩ := (h2 x).1 hx;unfold NodE at hn;rw [List.map_append, List.nodup_append] at hn;exact hn.2.2 (Ah f) (List.mem_map_of_mem hf) (Ah e) (by simp) q
   have e1 : Afv (C3 l m) (Da l e) = Og (C3 l m) (Da l e) := by
    unfold Afv; rw [if_neg (by rw [Ai3.2 hnew]; simp)]
   rw [e1];refine ⟨Vu h1 hnew, fun x => ?_⟩;rw [Aa0, h2, grow];exact ⟨fun q => q.elim (fun q => .inr ⟨hm, q⟩) .inl, fun q => q.elim .inr fun q => .inl q.2⟩
 · rw [if_neg hm];refine ⟨h1, fun x => ?_⟩;rw [h2, grow];exact ⟨.inl, fun q => q.resolve_right fun q => hm q.1⟩
theorem Agh (b : Bq) (x : Ent) : M4 b (M4 b x) = M4 b x := by
 unfold M4; simp only [Ab8, Ae6]
theorem Y5 (e : Evt) : ∀ (m l : List Ent), Fm e l m = l.map fun x => if m.any (fun y => decide (y.id = x.id) && Ew e y) = true then M4 (Ah e) x else x
 | [], l => by simp [Fm]
 | y :: m, l => by
   have ih := Y5 e m (if Ew e y = true then killL l y.id (Ah e) else l);unfold Fm at ih ⊢;simp only [List.foldl_cons];rw [ih];split
   · rename_i hg;unfold killL T4;rw [List.map_map];refine List.map_congr_left fun x hx => ?_;simp only [Function.comp];by_cases hy : x.id = y.id
     · simp only [if_pos hy];have e2 : List.any (y :: m) (fun z => decide (z.id = x.id) && Ew e z) = true := by simp [hy, hg]
       rw [if_pos e2];split
       · exact Agh _ _
       · rfl
     · simp only [if_neg hy];have e2 : List.any (y :: m) (fun z => decide (z.id = x.id) && Ew e z) = List.any m (fun z => decide (z.id = x.id) && Ew e z) := by
        rw [List.any_cons, decide_eq_false (fun q : y.id = x.id => hy q.symm), Bool.false_and, Bool.false_or]
       rw [e2]
   · rename_i hg;refine List.map_congr_left fun x hx => ?_;have e2 : List.any (y :: m) (fun z => decide (z.id = x.id) && Ew e z) = List.any m (fun z => decide (z.id = x.id) && Ew e z) := by
      simp [show Ew e y = false by simpa using hg]
     rw [e2]
theorem Ars {e : Evt} {l : List Ent} (hs : Ds l) : Fm e l l = l.map fun x => if Ew e x = true then M4 (Ah e) x else x := by
 rw [Y5];refine List.map_congr_left fun x hx => ?_;have : l.any (fun y => decide (y.id = x.id) && Ew e y) = Ew e x := by
  rw [Bool.eq_iff_iff, List.any_eq_true];constructor
  · rintro ⟨y, hy, h⟩;simp only [Bool.and_eq_true, decide_eq_true_eq] at h;have h1 := Ado hs hy;have h2 := Ado hs hx;rw [h.1] at h1;rw [h1] at h2; cases h2;exact h.2
  · exact fun h => ⟨x, hx, by simp [h]⟩
 rw [this]
theorem Ayb {l : List Evt} {e : Evt} (h : Val l) (ha : Acc (An l) e) (obj : Bq) : byG (l ++ [e]) obj (Ah e) = fun _ => 0 := by
 unfold byG;have : ∀ m : List Evt, (∀ g ∈ m, Hv g obj (Ah e) = false) → m.foldl (fun g f => if Hv f obj (Ah e) = true then Ba g f.rep f.seq else g) (fun _ => 0 : Vc) = fun _ => 0 := fun m hm => by
  induction m with
  | nil => rfl
  | cons g m ih =>
    rw [List.foldl_cons, if_neg (by rw [hm g List.mem_cons_self]; simp)];exact ih fun f hf => hm f (List.mem_cons_of_mem _ hf)
 exact this _ fun g hg => Av7 h ha obj hg
theorem Ash {l : List Evt} {e : Evt} (h : Val l) (ha : Acc (An l) e) : Da (l ++ [e]) e = Gj e (Ey e) := by
 unfold Da Gj; rw [Ayb h ha]
theorem W6 (l : List Evt) (e f : Evt) : Da (l ++ [e]) f = if Hv e (Ey f) (Ah f) = true then M4 (Ah e) (Da l f) else Da l f := by
 unfold Da;rw [Rc];split
 · unfold M4; simp only;rw [show Ba (byG l (Ey f) (Ah f)) e.rep e.seq = Ba (byG l (Ey f) (Ah f)) (Ah e).1 (Ah e).2 from rfl, Ab6]
 · rfl
theorem Wz (l : List Evt) (e f : Evt) (hk : e.kind = 6 ∨ e.kind = 7) : Hv e (Ey f) (Ah f) = Ew e (Da l f) := by
 unfold Hv Ew Da;simp only [hk, decide_true, Bool.true_and];congr 1;exact decide_eq_decide.2 ⟨Eq.symm, Eq.symm⟩
theorem Al7 {l : List Evt} {e : Evt} (h : Val l) (ha : Acc (An l) e) :
 C3 (l ++ [e]) (l ++ [e]) = if e.kind = 1 ∨ e.kind = 2 then Rf (C3 l l) (Gj e (Ah e)) else if e.kind = 7 then Rf (Fm e (C3 l l) (C3 l l)) (Gj e (Az e)) else if e.kind = 6 then Fm e (C3 l l) (C3 l l) else C3 l l := by
 have hn := h.nod;have hn2 : NodE (l ++ [e]) := by
  unfold NodE;rw [List.map_append, List.nodup_append];refine ⟨hn, by simp, fun a hm b hb q => ?_⟩;obtain ⟨f, hf, rfl⟩ := List.mem_map.1 hm;simp at hb;exact Gu h ha f hf (by rw [q, hb])
 obtain ⟨s1, m1⟩ := Si (l := l) l hn;obtain ⟨s2, m2⟩ := Si (l := l ++ [e]) (l ++ [e]) hn2;have hlook : ∀ {m : List Ent}, (∀ x ∈ m, ∃ f ∈ l, x.id = Ah f) → Hq m (Ah e) = none := fun hm => F9.2 fun x hx q => by
  obtain ⟨f, hf, hi⟩ := hm x hx;exact Gu h ha f hf (by rw [← hi, q])
 have hadd : ∀ {m : List Ent} {o : Bq}, Ds m → (∀ x ∈ m, ∃ f ∈ l, x.id = Ah f) → Ds (Rf m (Gj e o)) ∧ ∀ x, x ∈ Rf m (Gj e o) ↔ x = Gj e o ∨ x ∈ m := fun {m o} hs hm => by
  have hl := hlook hm;have e1 : Rf m (Gj e o) = Og m (Gj e o) := by unfold Rf; rw [if_neg (by rw [show Qs m (Gj e o).id = false from Ai3.2 hl]; simp)]
  rw [e1];exact ⟨Vu hs hl, fun x => Aa0⟩
 have hold : ∀ x ∈ C3 l l, ∃ f ∈ l, x.id = Ah f := fun x hx => by
  obtain ⟨f, hf, _, rfl⟩ := (m1 x).1 hx; exact ⟨f, hf, rfl⟩
 have hgone := Ly (e := e) s1 (C3 l l);have hgeq := Ars (e := e) s1;have hgold : ∀ x ∈ Fm e (C3 l l) (C3 l l), ∃ f ∈ l, x.id = Ah f := fun x hx => by
  rw [hgeq] at hx;obtain ⟨y, hy, rfl⟩ := List.mem_map.1 hx;obtain ⟨f, hf, hi⟩ := hold y hy;refine ⟨f, hf, ?_⟩;split <;> exact hi
 have mG : (e.kind = 6 ∨ e.kind = 7) → ∀ x, x ∈ Fm e (C3 l l) (C3 l l) ↔ ∃ f ∈ l, mkB f = true ∧ x = Da (l ++ [e]) f := fun hk x => by
  rw [hgeq, List.mem_map];constructor
  · rintro ⟨y, hy, rfl⟩;obtain ⟨f, hf, hm, rfl⟩ := (m1 y).1 hy;exact ⟨f, hf, hm, by rw [W6, Wz l e f hk]⟩
  · rintro ⟨f, hf, hm, rfl⟩;exact ⟨Da l f, (m1 _).2 ⟨f, hf, hm, rfl⟩, by rw [W6, Wz l e f hk]⟩
 have mN : ¬ (e.kind = 6 ∨ e.kind = 7) → ∀ x, x ∈ C3 l l ↔ ∃ f ∈ l, mkB f = true ∧ x = Da (l ++ [e]) f := fun hk x => by
  rw [m1];have : ∀ f, Da (l ++ [e]) f = Da l f := fun f => by
   rw [W6, if_neg (by unfold Hv; simp [hk])]
  exact ⟨fun ⟨f, a, b, c⟩ => ⟨f, a, b, by rw [this, c]⟩, fun ⟨f, a, b, c⟩ => ⟨f, a, b, by rw [← this, c]⟩⟩
 have grow : ∀ x : Ent, (∃ f ∈ l ++ [e], mkB f = true ∧ x = Da (l ++ [e]) f) ↔ (mkB e = true ∧ x = Gj e (Ey e)) ∨ (∃ f ∈ l, mkB f = true ∧ x = Da (l ++ [e]) f) := fun x => by
  rw [← Ash h ha];simp only [List.mem_append, List.mem_singleton];constructor
  · rintro ⟨f, hf | rfl, h⟩
    · exact .inr ⟨f, hf, h⟩
    · exact .inl h
  · rintro (h | ⟨f, hf, h⟩)
    · exact ⟨e, .inr rfl, h⟩
    · exact ⟨f, .inl hf, h⟩
 by_cases h12 : e.kind = 1 ∨ e.kind = 2
 · rw [if_pos h12];have hm : mkB e = true := decide_eq_true (by omega);have ho : Ey e = Ah e := if_neg (by omega);obtain ⟨a1, a2⟩ := hadd (o := Ah e) s1 hold;refine Nv s2 a1 fun x => ?_;rw [m2, grow, a2, mN (by omega), ho];simp [hm]
 rw [if_neg h12];by_cases h7 : e.kind = 7
 · rw [if_pos h7];have hm : mkB e = true := decide_eq_true (by omega);have ho : Ey e = Az e := if_pos h7;obtain ⟨a1, a2⟩ := hadd (o := Az e) hgone hgold;refine Nv s2 a1 fun x => ?_;rw [m2, grow, a2, mG (.inr h7), ho];simp [hm]
 rw [if_neg h7];have hm : mkB e = false := decide_eq_false (by omega);by_cases h6 : e.kind = 6
 · rw [if_pos h6];refine Nv s2 hgone fun x => ?_;rw [m2, grow, mG (.inl h6)];simp [hm]
 · rw [if_neg h6];refine Nv s2 s1 fun x => ?_;rw [m2, grow, mN (by omega)];simp [hm]
theorem Nq {l : List Evt} {e : Evt} (h : Val l) (ha : Acc (An l) e) : NodE (l ++ [e]) := by
 unfold NodE;rw [List.map_append, List.nodup_append];refine ⟨h.nod, by simp, fun a hm b hb q => ?_⟩;obtain ⟨f, hf, rfl⟩ := List.mem_map.1 hm;simp at hb;exact Gu h ha f hf (by rw [q, hb])
theorem Za {l : List Evt} (hn : NodE l) {e : Evt} (he : e ∈ l) : G8 l (Ah e) = some e := by
 unfold G8
 induction l with
 | nil => cases he
 | cons f l ih =>
   unfold NodE at hn;rw [List.map_cons, List.nodup_cons] at hn;rw [List.find?_cons];rcases List.mem_cons.1 he with rfl | he
   · simp
   · have : Ah f ≠ Ah e := fun q => hn.1 (q ▸ List.mem_map_of_mem he);rw [decide_eq_false this];exact ih hn.2 he
theorem Al4 {l : List Evt} {i : Bq} (t : List Evt) (h : ∃ f ∈ l, Ah f = i) : G8 (l ++ t) i = G8 l i := by
 obtain ⟨f, hf, hi⟩ := h;unfold G8;rw [List.find?_append];cases hq : List.find? (fun e => decide (Ah e = i)) l with
 | some x => rfl
 | none => exact absurd hi (by simpa using List.find?_eq_none.1 hq f hf)
theorem Sf (l : List Evt) (e : Evt) : ∀ m : List Evt, (C8 l m e).vers = Cy l (Ah e) l :=
 Vy rfl fun m f ih => by
  rw [Jg];unfold D4;split
  · split
    · split <;> exact ih
    · split <;> exact ih
  · exact ih
theorem Qj {l : List Evt} (hn : NodE l) : Eo (An l).objs ∧ (An l).objs.length ≤ l.length ∧ ∀ o, o ∈ (An l).objs ↔ ∃ e ∈ l, (e.kind = 1 ∨ e.kind = 2) ∧ o = C8 l l e := Rd l.length l rfl hn
theorem Af5 {l : List Obj} {i : Bq} {o : Obj} (h : Fa l i = some o) : o ∈ l ∧ o.id = i := ⟨List.mem_of_getElem? (Gx h).1, (Gx h).2⟩
theorem Rh {l : List Evt} {e : Evt} (h : Val l) (ha : Acc (An l) e) (hk : e.kind = 3 ∨ e.kind = 4 ∨ e.kind = 5 ∨ e.kind = 6 ∨ e.kind = 7) : ∃ f ∈ l, (f.kind = 1 ∨ f.kind = 2) ∧ Ah f = Az e ∧ Fa (An l).objs (Az e) = some (C8 l l f) ∧ (O1 e = true → (C8 l l f).dir = false ∧ ¬ Di (Cy l (Az e) l) e.base.l) := by
 have hw := ha.why;unfold T0 at hw;rw [if_neg (by omega), if_neg (by omega)] at hw;cases ho : Fa (An l).objs (Az e) with
 | none => rw [ho] at hw; cases hw
 | some o =>
   rw [ho] at hw;obtain ⟨h1, h2⟩ := Af5 ho;obtain ⟨f, hf, hk12, rfl⟩ := ((Qj h.nod).2.2 o).1 h1;have h2' : Ah f = Az e := by rw [← I9 l f l]; exact h2
   refine ⟨f, hf, hk12, h2', rfl, fun hwr => ?_⟩;have hk3 := of_decide_eq_true hwr;simp only at hw;rw [if_neg (by omega), if_neg (by omega)] at hw;split at hw
   · cases hw
   · split at hw
     · cases hw
     · rename_i hd hm;rw [Sf, h2'] at hm;exact ⟨by simpa using hd, hm⟩
theorem Ju {l : List Evt} {e : Evt} (h : Val l) (ha : Acc (An l) e) (hw : O1 e = true) : ∀ b ∈ e.base.l, ∃ v, Bs (Cy l (Az e) l) b.1 b.2 = some v ∧ ∃ g ∈ l, O1 g = true ∧ Az g = Az e ∧ Ah g = b ∧ v = Gw l l g := fun b hb => by
 have hk3 := of_decide_eq_true hw;obtain ⟨f, hf, hk, hi, ho, hm⟩ := Rh h ha (by omega);obtain ⟨_, hm⟩ := hm hw;cases hv : Bs (Cy l (Az e) l) b.1 b.2 with
 | none => exact absurd ⟨b, hb, hv⟩ hm
 | some v =>
   obtain ⟨h1, h2⟩ := Y9 hv;obtain ⟨g, hg, ⟨hw, ho⟩, rfl⟩ := (Np l.length l rfl).1 h1;exact ⟨_, rfl, g, hg, hw, ho, Prod.ext h2.1 h2.2, rfl⟩
noncomputable def Zx (l : List Evt) (e : Evt) : List UInt8 := match e.base.l with
 | [] => []
 | b :: _ => De l l.length b
theorem Xf {e : Evt} (h : Bo e = true) (hw : O1 e = true) : e.data.length ≤ 200 := by
 have hK := Nd h;have hk := of_decide_eq_true hw;rcases hk with k | k | k
 · have h1 := hK.1;rw [J7 k] at h1;simp only [Bool.and_eq_true, Cw, decide_eq_true_eq] at h1;omega
 · have h1 := hK.2;rw [A41 k] at h1;simp only [Am, Bool.and_eq_true, Bool.or_eq_true, decide_eq_true_eq, Bool.false_eq_true, false_or, true_or] at h1;have : e.data = [] := h1.2.2.2.2.2.1;rw [this]; simp
 · have h1 := hK.1;rw [N2 k] at h1;simp only [Bool.and_eq_true, Cw, decide_eq_true_eq] at h1;omega
theorem Ajx {e : Evt} (h : Bo e = true) (hw : O1 e = true) {was : List UInt8} (hl : was.length ≤ 200) : (Gk e was).length ≤ 200 := by
 have hd := Xf h hw;unfold Gk;split
 · exact hd
 · split
   · unfold X2; split
     · simp
     · rw [Aeg]; omega
   · unfold Kk; split
     · simp
     · rename_i h; unfold D5 at h; rw [Wa]; omega
theorem Nr {l : List Evt} (h : Val l) : ∀ g ∈ l, O1 g = true → (De l l.length (Ah g)).length ≤ 200 ∧ ∀ t n, l.length ≤ n → De (l ++ t) n (Ah g) = De l l.length (Ah g) := by
 induction h with
 | nil => intro g hg; cases hg
 | @snoc l e hl he hw ih =>
   have ha := Ri.1 hw;intro g hg hgw;have hlen : (l ++ [e]).length = l.length + 1 := by simp
   rcases List.mem_append.1 hg with hg | hg
   · obtain ⟨h1, h2⟩ := ih g hg hgw;have e1 : De (l ++ [e]) (l ++ [e]).length (Ah g) = De l l.length (Ah g) := h2 [e] _ (by omega);rw [e1];refine ⟨h1, fun t n hn => ?_⟩;rw [List.append_assoc];exact h2 _ n (by omega)
   · rw [List.mem_singleton] at hg; subst hg;have key : ∀ t n, (l ++ [g]).length ≤ n → De ((l ++ [g]) ++ t) n (Ah g) = Gk g (Zx l g) := fun t n hn => by
      obtain ⟨n, rfl⟩ : ∃ k, n = k + 1 := ⟨n - 1, by omega⟩
      simp only [De];rw [Al4 t ⟨g, by simp, rfl⟩, Za (Nq hl ha) (by simp)];simp only;congr 1;unfold Zx;cases hb : g.base.l with
      | nil => rfl
      | cons b r =>
        simp only;obtain ⟨v, hv, f, hf, hfw, _, rfl, _⟩ := Ju hl ha hgw b (by rw [hb]; simp);rw [List.append_assoc];exact (ih f hf hfw).2 _ n (by omega)
     have e1 : De (l ++ [g]) (l ++ [g]).length (Ah g) = Gk g (Zx l g) := by
      have := key [] (l ++ [g]).length (Nat.le_refl _)
      rwa [List.append_nil] at this
     rw [e1];refine ⟨Ajx ha.ck hgw ?_, key⟩;unfold Zx;cases hb : g.base.l with
     | nil => simp
     | cons b r =>
       simp only;obtain ⟨v, hv, f, hf, hfw, _, rfl, _⟩ := Ju hl ha hgw b (by rw [hb]; simp);exact (ih f hf hfw).1
theorem Amn {l : List Evt} {e : Evt} (h : Val l) (ha : Acc (An l) e) (hw : O1 e = true) : De (l ++ [e]) (l ++ [e]).length (Ah e) = Gk e (Zx l e) := by
 rw [show (l ++ [e]).length = l.length + 1 from by simp];simp only [De];rw [Za (Nq h ha) (by simp)];simp only;congr 1;unfold Zx;cases hb : e.base.l with
 | nil => rfl
 | cons b r =>
   simp only;obtain ⟨v, hv, f, hf, hfw, _, rfl, _⟩ := Ju h ha hw b (by rw [hb]; simp);exact (Nr h f hf hfw).2 _ _ (Nat.le_refl _)
theorem Ab7 {l : List Evt} {e : Evt} (h : Val l) {g : Evt} (hg : g ∈ l) (hw : O1 g = true) : Gw (l ++ [e]) (l ++ [e]) g = if Y3 e (Az g) (Ah g) = true then Eu (Gw l l g) e.rep e.seq else Gw l l g := by
 have hb := (Nr h g hg hw).2 [e] (l ++ [e]).length (by simp);unfold Gw;rw [hb, Ad6];split <;> rfl
theorem Av8 {l : List Evt} {e : Evt} (h : Val l) (ha : Acc (An l) e) (obj : Bq) {g : Evt} (hg : g ∈ l ++ [e]) : Y3 g obj (Ah e) = false := by
 cases hq : Y3 g obj (Ah e) with
 | false => rfl
 | true =>
   unfold Y3 at hq;simp only [Bool.and_eq_true, decide_eq_true_eq] at hq;rcases List.mem_append.1 hg with hg | hg
   · obtain ⟨a, b, rfl, h1, _, h3⟩ := h.mem hg;obtain ⟨_, _, f, hf, _, _, hi, _⟩ := Ju h1 h3 hq.1 _ hq.2.2;exact absurd hi (Gu h ha f (by simp [hf]))
   · rw [List.mem_singleton] at hg; subst hg;obtain ⟨_, _, f, hf, _, _, hi, _⟩ := Ju h ha hq.1 _ hq.2.2;exact absurd hi (Gu h ha f hf)
theorem Aw8 {l : List Evt} {e : Evt} (h : Val l) (ha : Acc (An l) e) (obj : Bq) : gvG (l ++ [e]) obj (Ah e) = fun _ => 0 := by
 unfold gvG;have : ∀ m : List Evt, (∀ g ∈ m, Y3 g obj (Ah e) = false) → m.foldl (fun a g => if Y3 g obj (Ah e) = true then Ba a g.rep g.seq else a) (fun _ => 0 : Vc) = fun _ => 0 := fun m hm => by
  induction m with
  | nil => rfl
  | cons g m ih =>
    rw [List.foldl_cons, if_neg (by rw [hm g List.mem_cons_self]; simp)];exact ih fun f hf => hm f (List.mem_cons_of_mem _ hf)
 exact this _ fun g hg => Av8 h ha obj hg
theorem Gn {l : List Evt} (h : NodE l) (obj : Bq) : Cv (Cy l obj l) ∧ (Cy l obj l).length ≤ l.length ∧ ∀ v, v ∈ Cy l obj l ↔ ∃ e ∈ l, (O1 e = true ∧ Az e = obj) ∧ v = Gw l l e := ⟨(I5 l.length l rfl h).1, (I5 l.length l rfl h).2, fun v => Np l.length l rfl⟩
theorem Nn {l : List Evt} {e : Evt} (h : Val l) (ha : Acc (An l) e) {obj : Bq} (hx : ¬ (O1 e = true ∧ Az e = obj)) : Cy (l ++ [e]) obj (l ++ [e]) = Cy l obj l := by
 obtain ⟨s1, _, m1⟩ := Gn h.nod obj;obtain ⟨s2, _, m2⟩ := Gn (Nq h ha) obj;refine Yf s2 s1 fun v => ?_;have key : ∀ g ∈ l, O1 g = true ∧ Az g = obj → Gw (l ++ [e]) (l ++ [e]) g = Gw l l g := fun g hg ⟨hw, ho⟩ => by
  rw [Ab7 h hg hw, if_neg];unfold Y3;rw [ho];simp only [Bool.and_eq_true, decide_eq_true_eq];exact fun q => hx ⟨q.1, q.2.1⟩
 rw [m1, m2];constructor
 · rintro ⟨g, hg, hc, rfl⟩;rcases List.mem_append.1 hg with hg | hg
   · exact ⟨g, hg, hc, key g hg hc⟩
   · rw [List.mem_singleton] at hg; subst hg; exact absurd hc hx
 · rintro ⟨g, hg, hc, rfl⟩;exact ⟨g, List.mem_append_left _ hg, hc, (key g hg hc).symm⟩
theorem Amp {l : List Evt} {e : Evt} (h : Val l) (ha : Acc (An l) e) (hw : O1 e = true) : Fh (Cy l (Az e) l) e = Gk e (Zx l e) := by
 have hd : ∀ v ∈ Cy l (Az e) l, v.data.length ≤ 200 := fun v hv => by
  obtain ⟨g, hg, hc, rfl⟩ := ((Gn h.nod (Az e)).2.2 v).1 hv;exact (Nr h g hg hc.1).1
 have hk := of_decide_eq_true hw;have hf := Xe ha.ck hk hd;have hwas : (Dw (Cy l (Az e) l) (En e).1 (En e).2).1 = Zx l e := by
  unfold En Zx;cases hb : e.base.l with
  | nil => simp only; rw [Q8 ⟨rfl, rfl⟩]
  | cons b r =>
    simp only;obtain ⟨v, hv, f, hf, hfw, _, rfl, rfl⟩ := Ju h ha hw b (by rw [hb]; simp);obtain ⟨a, c, _, _, _, h3⟩ := h.mem hf;have hbp := Cx h3.ck;have hbp1 : 1 ≤ f.rep := hbp.1;rw [L6 (fun q => by have := q.1; simp only at this; omega) hv];rfl
 have hwl : (Dw (Cy l (Az e) l) (En e).1 (En e).2).1.length ≤ 200 := Zd hd _ _;unfold Fh Gk;rw [hwas] at hwl ⊢;by_cases h5 : e.kind = 5
 · rw [if_pos h5, if_pos h5]
 rw [if_neg h5, if_neg h5];obtain ⟨o1, o2⟩ := hf.off h5;by_cases h4 : e.kind = 4
 · rw [if_pos h4, if_pos h4];unfold X2; rw [if_neg (by omega)]
 · rw [if_neg h4, if_neg h4];have hl := hf.len (by omega);unfold Kk; rw [if_neg (by unfold D5; omega)]
theorem Anp {l : List Evt} {e : Evt} (h : Val l) (ha : Acc (An l) e) (hw : O1 e = true) : Cy (l ++ [e]) (Az e) (l ++ [e]) = Fo (Cy l (Az e) l) e.base.l (Rw e.rep e.seq (Fh (Cy l (Az e) l) e)) := by
 obtain ⟨s1, _, m1⟩ := Gn h.nod (Az e);obtain ⟨s2, _, m2⟩ := Gn (Nq h ha) (Az e);have hnew : Bs (Cy l (Az e) l) e.rep e.seq = none := Pm.2 fun v hv ⟨h1, h2⟩ => by
  obtain ⟨g, hg, _, rfl⟩ := (m1 v).1 hv;exact Gu h ha g hg (Prod.ext h1 h2)
 have hE : Gw (l ++ [e]) (l ++ [e]) e = Rw e.rep e.seq (Fh (Cy l (Az e) l) e) := by
  unfold Gw Rw;rw [Amn h ha hw, Aw8 h ha, Amp h ha hw]
 refine Yf s2 (Aey s1 hnew) fun v => ?_;rw [m2, Aqr, ← hE];have key : ∀ g ∈ l, O1 g = true ∧ Az g = Az e → Gw (l ++ [e]) (l ++ [e]) g = Ot e.base.l e.rep e.seq (Gw l l g) := fun g hg ⟨hgw, ho⟩ => by
  rw [Ab7 h hg hgw];unfold Ot;have : Y3 e (Az g) (Ah g) = decide (((Gw l l g).rep, (Gw l l g).seq) ∈ e.base.l) := by
   unfold Y3;rw [hw, ho];simp; rfl
  rw [this];by_cases hin : ((Gw l l g).rep, (Gw l l g).seq) ∈ e.base.l
  · rw [if_pos (decide_eq_true hin), if_pos hin]
  · rw [if_neg (by simpa using hin), if_neg hin]
 constructor
 · rintro ⟨g, hg, hc, rfl⟩;rcases List.mem_append.1 hg with hg | hg
   · exact .inr ⟨Gw l l g, (m1 _).2 ⟨g, hg, hc, rfl⟩, key g hg hc⟩
   · rw [List.mem_singleton] at hg; subst hg; exact .inl rfl
 · rintro (rfl | ⟨y, hy, rfl⟩)
   · exact ⟨e, by simp, ⟨hw, rfl⟩, rfl⟩
   · obtain ⟨g, hg, hc, rfl⟩ := (m1 y).1 hy;exact ⟨g, List.mem_append_left _ hg, hc, (key g hg hc).symm⟩
theorem Afc (e f : Evt) (o : Obj) (v : List Ver) : D4 e { o with vers := v } f = { D4 e o f with vers := v } := by
 unfold D4;by_cases h1 : Az f = Ah e
 · rw [if_pos h1, if_pos h1];by_cases h7 : f.kind = 7
   · rw [if_pos h7, if_pos h7];by_cases hl : Cm o.last.1 o.last.2 f.rep f.seq = true
     · rw [if_pos hl, if_pos hl]
     · rw [if_neg hl, if_neg hl]
   · rw [if_neg h7, if_neg h7];by_cases h6 : f.kind = 6
     · rw [if_pos h6, if_pos h6]
     · rw [if_neg h6, if_neg h6]
 · rw [if_neg h1, if_neg h1]
theorem Av3 (l L : List Evt) (e : Evt) : ∀ m : List Evt, C8 L m e = { C8 l m e with vers := Cy L (Ah e) L } :=
 Vy rfl fun m f ih => by
  rw [Jg, Jg, ih, Afc]
theorem Ap7 (l : List Evt) (e f : Evt) : C8 (l ++ [e]) (l ++ [e]) f = { D4 f (C8 l l f) e with vers := Cy (l ++ [e]) (Ah f) (l ++ [e]) } := by
 rw [Av3 l, Jg]
theorem Adh {l : List Evt} {e : Evt} (h : Val l) (ha : Acc (An l) e) : C8 (l ++ [e]) (l ++ [e]) e = Wl e := by
 have hv : Cy (l ++ [e]) (Ah e) (l ++ [e]) = [] := by
  refine List.eq_nil_iff_forall_not_mem.2 fun v hv => ?_;obtain ⟨g, hg, hc, _⟩ := ((Gn (Nq h ha) (Ah e)).2.2 v).1 hv;exact Aqf h ha hg hc.2
 unfold C8 Wl;rw [hv];have : ∀ (m : List Evt) (o : Obj), (∀ g ∈ m, Az g ≠ Ah e) → m.foldl (D4 e) o = o := fun m => by
  induction m with
  | nil => intro o _; rfl
  | cons g m ih =>
    intro o hm;rw [List.foldl_cons, show D4 e o g = o from if_neg (hm g List.mem_cons_self)];exact ih o fun f hf => hm f (List.mem_cons_of_mem _ hf)
 exact this _ _ fun g hg => Aqf h ha hg
def GO (e : Evt) (x : Obj) : Obj :=
 if e.kind = 7 then Wn e x
 else if e.kind = 6 then { x with seen := Cz x.seen (Ba e.dep e.rep e.seq) }
 else { x with vers := Fo x.vers e.base.l (Rw e.rep e.seq (Fh x.vers e)) }
theorem Aqm (e : Evt) (x : Obj) : (Wn e x).id = x.id := by unfold Wn; split <;> rfl
theorem A9k (e : Evt) (x : Obj) : (GO e x).id = x.id := by
 unfold GO;split
 · exact Aqm e x
 · split <;> rfl
theorem Aoo {l : List Obj} (hs : Eo l) {i : Bq} {o : Obj} (h : Fa l i = some o) (g : Obj → Obj) : l.set (Cc l i) (g o) = l.map fun x => if x.id = i then g x else x := by
 obtain ⟨h1, h2⟩ := Gx h;apply List.ext_getElem?;intro j;rw [List.getElem?_map];by_cases hj : Cc l i = j
 · subst hj;rw [List.getElem?_set_self (List.getElem?_eq_some_iff.1 h1).1, h1];simp only [Option.map_some];rw [if_pos h2]
 · rw [List.getElem?_set_ne hj];cases hy : l[j]? with
   | none => rfl
   | some y =>
     simp only [Option.map_some];rw [if_neg];intro q;rcases Nat.lt_or_gt_of_ne hj with k | k
     · have := Ku hs h1 hy k; rw [h2, q] at this; exact Gb this
     · have := Ku hs hy h1 k; rw [h2, q] at this; exact Gb this
theorem Axt {s : St} (hs : Eo s.objs) {e : Evt} (hk : e.kind = 3 ∨ e.kind = 4 ∨ e.kind = 5 ∨ e.kind = 6 ∨ e.kind = 7) {o : Obj} (h : Fa s.objs (Az e) = some o) : (doS s e).objs = s.objs.map fun x => if x.id = Az e then GO e x else x := by
 unfold doS;rw [if_neg (by omega), if_neg (by omega), if_neg (by omega), h, ← Aoo hs h (GO e)];simp only;unfold GO;by_cases h7 : e.kind = 7
 · rw [if_pos h7, if_pos h7]; rfl
 rw [if_neg h7, if_neg h7];by_cases h6 : e.kind = 6
 · rw [if_pos h6, if_pos h6]; rfl
 · rw [if_neg h6, if_neg h6]; rfl
theorem Aj1 {l : List Obj} (hs : Eo l) {g : Obj → Obj} (hg : ∀ x, (g x).id = x.id) : Eo (l.map g) := by
 rw [Vw] at *;rw [List.pairwise_map];exact hs.imp fun {a b} h => by rw [hg, hg]; exact h
theorem A00 {l : List Evt} (h : Val l) {f : Evt} (hf : f ∈ l) : Ah f ≠ (0, 0) := fun q => by
 obtain ⟨a, b, _, _, _, h3⟩ := h.mem hf;have h1 : 1 ≤ f.rep := (Cx h3.ck).1;have h2 : f.rep = 0 := congrArg Prod.fst q;omega
theorem Air {l : List Evt} {e : Evt} (h : Val l) (ha : Acc (An l) e) {f : Evt} (hf : f ∈ l) :
 C8 (l ++ [e]) (l ++ [e]) f = if (e.kind = 3 ∨ e.kind = 4 ∨ e.kind = 5 ∨ e.kind = 6 ∨ e.kind = 7) ∧ Ah f = Az e then GO e (C8 l l f) else C8 l l f := by
 rw [Ap7];have hov := Sf l f l;by_cases hk : e.kind = 3 ∨ e.kind = 4 ∨ e.kind = 5 ∨ e.kind = 6 ∨ e.kind = 7;rotate_left
 · rw [if_neg fun q => hk q.1];have hw : O1 e = false := decide_eq_false (by omega);rw [Nn h ha (fun q => by rw [hw] at q; simp at q), ← hov];have h0 := Xc ha.ck hk;have : D4 f (C8 l l f) e = C8 l l f := if_neg (by rw [h0]; exact fun q => A00 h hf q.symm);rw [this]
 by_cases hi : Ah f = Az e;rotate_left
 · rw [if_neg fun q => hi q.2, Nn h ha (fun q => hi q.2.symm), ← hov];have : D4 f (C8 l l f) e = C8 l l f := if_neg fun q => hi q.symm;rw [this]
 rw [if_pos ⟨hk, hi⟩];unfold D4 GO;rw [if_pos hi.symm];by_cases h7 : e.kind = 7
 · have hw : O1 e = false := decide_eq_false (by omega);rw [if_pos h7, if_pos h7, Nn h ha (fun q => by rw [hw] at q; simp at q), ← hov];unfold Wn;split <;> rfl
 rw [if_neg h7, if_neg h7];by_cases h6 : e.kind = 6
 · have hw : O1 e = false := decide_eq_false (by omega);rw [if_pos h6, if_pos h6, Nn h ha (fun q => by rw [hw] at q; simp at q), ← hov]
 · rw [if_neg h6, if_neg h6];have hw : O1 e = true := decide_eq_true (by omega);rw [hi, Anp h ha hw, hov, hi]
theorem Akr {l : List Evt} {e : Evt} (h : Val l) (ha : Acc (An l) e) : (An (l ++ [e])).objs = (E6 (An l) e).objs := by
 obtain ⟨s1, _, m1⟩ := Qj h.nod;obtain ⟨s2, _, m2⟩ := Qj (Nq h ha);have hkn : (Hh (An l) e).objs = (An l).objs := rfl;by_cases hk : e.kind = 3 ∨ e.kind = 4 ∨ e.kind = 5 ∨ e.kind = 6 ∨ e.kind = 7
 · obtain ⟨f0, hf0, _, _, ho, _⟩ := Rh h ha hk;have hd := Axt (s := Hh (An l) e) s1 hk ho;unfold E6;rw [hd];refine R3 s2 (Aj1 s1 fun x => by split; exact A9k e x; rfl) fun x => ?_;rw [m2, List.mem_map];have key : ∀ f ∈ l, C8 (l ++ [e]) (l ++ [e]) f = if (C8 l l f).id = Az e then GO e (C8 l l f) else C8 l l f := fun f hf => by
    rw [Air h ha hf, I9];by_cases hi : Ah f = Az e
    · rw [if_pos ⟨hk, hi⟩, if_pos hi]
    · rw [if_neg fun q => hi q.2, if_neg hi]
   constructor
   · rintro ⟨f, hf, hc, rfl⟩;rcases List.mem_append.1 hf with hf | hf
     · exact ⟨C8 l l f, (m1 _).2 ⟨f, hf, hc, rfl⟩, (key f hf).symm⟩
     · rw [List.mem_singleton] at hf; subst hf; omega
   · rintro ⟨y, hy, rfl⟩;obtain ⟨f, hf, hc, rfl⟩ := (m1 y).1 hy;exact ⟨f, List.mem_append_left _ hf, hc, (key f hf).symm⟩
 have key : ∀ f ∈ l, C8 (l ++ [e]) (l ++ [e]) f = C8 l l f := fun f hf => by
  rw [Air h ha hf, if_neg fun q => hk q.1]
 have hb := Cx ha.ck;obtain ⟨_, _, _, _, _, b6, b7⟩ := hb;by_cases h12 : e.kind = 1 ∨ e.kind = 2
 · have hd : (E6 (An l) e).objs = Hs (An l).objs (Wl e) := by
    unfold E6 doS;rw [if_neg (by omega), if_neg (by omega), if_pos h12]; rfl
   rw [hd];have hne : ∀ x ∈ (An l).objs, x.id ≠ (Wl e).id := fun x hx q => by
    obtain ⟨f, hf, hc, rfl⟩ := (m1 x).1 hx;rw [I9] at q;exact Gu h ha f hf q
   refine R3 s2 (Yg s1 hne) fun x => ?_;rw [m2, Adk];constructor
   · rintro ⟨f, hf, hc, rfl⟩;rcases List.mem_append.1 hf with hf | hf
     · exact .inr ((m1 _).2 ⟨f, hf, hc, key f hf⟩)
     · rw [List.mem_singleton] at hf; subst hf; exact .inl (Adh h ha)
   · rintro (rfl | hx)
     · exact ⟨e, by simp, h12, (Adh h ha).symm⟩
     · obtain ⟨f, hf, hc, rfl⟩ := (m1 x).1 hx;exact ⟨f, List.mem_append_left _ hf, hc, (key f hf).symm⟩
 · have hd : (E6 (An l) e).objs = (An l).objs := by
    unfold E6 doS;by_cases h8 : e.kind = 8
    · rw [if_pos h8]; rfl
    · rw [if_neg h8, if_pos (by omega)]; rfl
   rw [hd];refine R3 s2 s1 fun x => ?_;rw [m2, m1];constructor
   · rintro ⟨f, hf, hc, rfl⟩;rcases List.mem_append.1 hf with hf | hf
     · exact ⟨f, hf, hc, key f hf⟩
     · rw [List.mem_singleton] at hf; subst hf; exact absurd hc h12
   · rintro ⟨f, hf, hc, rfl⟩;exact ⟨f, List.mem_append_left _ hf, hc, (key f hf).symm⟩
end Go.Proofs.YthmjebkldgdeiaaGreat.Fw
namespace Go.Proofs.YthmjebkldgdeiaaGreat.Fw
open Go.RowKit Go.Proofs
theorem St.eq {a b : St} (h1 : a.known = b.known) (h2 : a.objs = b.objs) (h3 : a.ents = b.ents) (h4 : a.wards = b.wards) (h5 : a.ret = b.ret) : a = b := by
 cases a; cases b; simp only at h1 h2 h3 h4 h5; subst h1 h2 h3 h4 h5; rfl
theorem A8h (l l' : List Evt) : ∀ m : List Evt, (F3 l m).1.wards = (F3 l' m).1.wards ∧ (F3 l m).1.ret = (F3 l' m).1.ret ∧ (F3 l m).2 = (F3 l' m).2 :=
 Vy ⟨rfl, rfl, rfl⟩ fun m e ⟨h1, h2, h3⟩ => by
  rw [H3, H3];unfold D0;by_cases k12 : e.kind = 1 ∨ e.kind = 2
  · rw [if_pos k12, if_pos k12]; exact ⟨h1, h2, h3⟩
  rw [if_neg k12, if_neg k12];by_cases k8 : e.kind = 8
  · rw [if_pos k8, if_pos k8, h3];split
    · exact ⟨by simp only [Ic, h1], h2, by simp only [h3]⟩
    · exact ⟨h1, h2, h3⟩
  rw [if_neg k8, if_neg k8];by_cases k9 : e.kind = 9
  · rw [if_pos k9, if_pos k9]; exact ⟨h1, by simp only [Oc, h2], h3⟩
  rw [if_neg k9, if_neg k9]; exact ⟨h1, h2, h3⟩
theorem Ajo {a b : Vc} {r : Int} {q : Nat} {i : Nat} (h : ∀ i, a i ≤ b i) : Ba a r q i ≤ Ba b r q i := by
 by_cases hr : 1 ≤ r ∧ r ≤ 8
 · rw [Pz hr, Pz hr]; have := h i; split <;> omega
 · unfold Ba; rw [if_neg hr, if_neg hr]; exact h i
theorem Ak7 (L : List Evt) : ∀ (m : List Evt) (i : Nat), (F3 L m).2 i ≤ Bn m i :=
 Vy (fun i => Nat.le_refl _) fun m e ih i => by
  rw [H3, J6];unfold D0;split
  · exact Nat.le_trans (ih i) (Zw i)
  · split
    · split
      · exact Ajo ih
      · exact Nat.le_trans (ih i) (Zw i)
    · split <;> exact Nat.le_trans (ih i) (Zw i)
theorem Aso (s : St) (e : Evt) : (doS s e).known = s.known := by
 unfold doS;split
 · rfl
 · split
   · rfl
   · split
     · rfl
     · split
       · rfl
       · split
         · rfl
         · split <;> rfl
theorem Xh {l : List Evt} {e : Evt} (h : Val l) (ha : Acc (An l) e) : An (l ++ [e]) = E6 (An l) e := by
 obtain ⟨n1, n2, n3⟩ := Ae0 ha;obtain ⟨_, _, _, _, _, b6, b7⟩ := Cx ha.ck;rw [Ef] at n3;have hb : An (l ++ [e]) = (D0 (l ++ [e]) (F3 (l ++ [e]) l) e).1 := by
  show (F3 (l ++ [e]) (l ++ [e])).1 = _;rw [H3]
 obtain ⟨w1, w2, w3⟩ := A8h (l ++ [e]) l l;have hen := Al7 h ha;rw [← N9 (l ++ [e]), ← N9 l] at hen;refine St.eq ?_ (Akr h ha) ?_ ?_ ?_
 · rw [Ef, J6];unfold E6; rw [Aso];show _ = Ba (An l).known e.rep e.seq;rw [Ef]
 · rw [hen];unfold E6 doS;by_cases h8 : e.kind = 8
   · rw [if_pos h8, if_neg (by omega), if_neg (by omega), if_neg (by omega)]; rfl
   rw [if_neg h8];by_cases h9 : e.kind = 9
   · rw [if_pos h9, if_neg (by omega), if_neg (by omega), if_neg (by omega)]; rfl
   rw [if_neg h9];by_cases h12 : e.kind = 1 ∨ e.kind = 2
   · rw [if_pos h12, if_pos h12]; rfl
   rw [if_neg h12, if_neg h12];obtain ⟨f0, hf0, _, _, ho, _⟩ := Rh h ha (by omega);rw [show Fa (Hh (An l) e).objs (Az e) = some (C8 l l f0) from ho];simp only;by_cases h7 : e.kind = 7
   · rw [if_pos h7, if_pos h7]; rfl
   rw [if_neg h7, if_neg h7];by_cases h6 : e.kind = 6
   · rw [if_pos h6, if_pos h6]; rfl
   · rw [if_neg h6, if_neg h6]; rfl
 · rw [hb];unfold E6 doS D0;by_cases h8 : e.kind = 8
   · have hlt : Ht (F3 (l ++ [e]) l).2 e.rep < e.seq := by
      unfold Ht; rw [if_pos ⟨n1, n2⟩, w3];have := Ak7 l l (e.rep - 1).toNat;omega
     rw [if_pos h8, if_neg (by omega), if_pos h8, if_pos hlt];simp only [Ic, w1]; rfl
   rw [if_neg h8, if_neg h8];by_cases h9 : e.kind = 9
   · rw [if_pos h9, if_neg (by omega), if_pos h9];simp only [Oc, w1]; rfl
   rw [if_neg h9, if_neg h9];by_cases h12 : e.kind = 1 ∨ e.kind = 2
   · rw [if_pos h12, if_pos h12]; simp only [w1]; rfl
   rw [if_neg h12, if_neg h12];obtain ⟨f0, hf0, _, _, ho, _⟩ := Rh h ha (by omega);rw [show Fa (Hh (An l) e).objs (Az e) = some (C8 l l f0) from ho];simp only;rw [w1];split
   · rfl
   · split <;> rfl
 · rw [hb];unfold E6 doS D0;by_cases h8 : e.kind = 8
   · rw [if_pos h8, if_neg (by omega), if_pos h8];split
     · simp only [Ic, w2]; rfl
     · simp only [Ic, w2]; rfl
   rw [if_neg h8, if_neg h8];by_cases h9 : e.kind = 9
   · rw [if_pos h9, if_neg (by omega), if_pos h9];simp only [Oc, w2]; rfl
   rw [if_neg h9, if_neg h9];by_cases h12 : e.kind = 1 ∨ e.kind = 2
   · rw [if_pos h12, if_pos h12]; simp only [w2]; rfl
   rw [if_neg h12, if_neg h12];obtain ⟨f0, hf0, _, _, ho, _⟩ := Rh h ha (by omega);rw [show Fa (Hh (An l) e).objs (Az e) = some (C8 l l f0) from ho];simp only;rw [w2];split
   · rfl
   · split <;> rfl
theorem O4 {l : List Evt} (h : Val l) (hn : l.length ≤ 400) : StIn (An l) := by
 obtain ⟨s1, l1, m1⟩ := Qj h.nod;have hv : ∀ o ∈ (An l).objs, ∃ f ∈ l, o.vers = Cy l (Ah f) l := fun o ho => by
  obtain ⟨f, hf, _, rfl⟩ := (m1 o).1 ho;exact ⟨f, hf, Sf l f l⟩
 have hs := (Si (l := l) l h.nod).1;refine ⟨⟨⟨by omega, fun o ho => ?_, ?_⟩, s1, ?_⟩, fun o ho => ?_, fun o ho v hq => ?_, fun o ho v hq => ?_⟩
 · obtain ⟨f, hf, e⟩ := hv o ho;rw [e]; have := (Gn h.nod (Ah f)).2.1; omega
 · rw [N9]; have := S0 l l.length l rfl; omega
 · rw [N9]; exact hs
 · obtain ⟨f, hf, e⟩ := hv o ho;rw [e]; exact (Gn h.nod (Ah f)).1
 · obtain ⟨f, hf, e⟩ := hv o ho;rw [e] at hq;obtain ⟨g, hg, hc, rfl⟩ := ((Gn h.nod (Ah f)).2.2 v).1 hq;exact (Nr h g hg hc.1).1
 · obtain ⟨f, hf, e⟩ := hv o ho;rw [e] at hq;obtain ⟨g, hg, hc, rfl⟩ := ((Gn h.nod (Ah f)).2.2 v).1 hq;rw [Ef];exact h.has.2 ⟨g, hg, rfl⟩
theorem Xb {e : Evt} (h : Bo e = true) (hw : O1 e = false) : e.base.l = [] ∧ e.data = [] := by
 obtain ⟨b1, b2, b3, b4, b5, b6, b7⟩ := Cx h;have hz := (Nd h).2;have hk : ¬ (e.kind = 3 ∨ e.kind = 4 ∨ e.kind = 5) := of_decide_eq_false hw;have h4 : e.kind = 1 ∨ e.kind = 2 ∨ e.kind = 6 ∨ e.kind = 7 ∨ e.kind = 8 ∨ e.kind = 9 := by omega
 rcases h4 with k | k | k | k | k | k
 · skip
   rw [Aue k] at hz; simp only [Am, Bool.and_eq_true, Bool.or_eq_true, decide_eq_true_eq, Bool.false_eq_true, false_or, true_or, true_and] at hz;exact ⟨List.length_eq_zero_iff.1 (by omega), hz.2.2.2.2.1⟩
 · skip
   rw [Azl k] at hz; simp only [Am, Bool.and_eq_true, Bool.or_eq_true, decide_eq_true_eq, Bool.false_eq_true, false_or, true_or, true_and] at hz;exact ⟨List.length_eq_zero_iff.1 (by omega), hz.2.2.2.2.1⟩
 · skip
   rw [A40 k] at hz; simp only [Am, Bool.and_eq_true, Bool.or_eq_true, decide_eq_true_eq, Bool.false_eq_true, false_or, true_or, true_and] at hz;exact ⟨List.length_eq_zero_iff.1 (by omega), hz.2.2.2.1⟩
 · skip
   rw [A4z k] at hz; simp only [Am, Bool.and_eq_true, Bool.or_eq_true, decide_eq_true_eq, Bool.false_eq_true, false_or, true_or, true_and] at hz;exact ⟨List.length_eq_zero_iff.1 (by omega), hz.2.2.1⟩
 · skip
   rw [Azk k] at hz; simp only [Am, Bool.and_eq_true, Bool.or_eq_true, decide_eq_true_eq, Bool.false_eq_true, false_or, true_or, true_and] at hz;exact ⟨List.length_eq_zero_iff.1 (by omega), hz.2.2.2.2.2.1⟩
 · skip
   rw [Azj k] at hz; simp only [Am, Bool.and_eq_true, Bool.or_eq_true, decide_eq_true_eq, Bool.false_eq_true, false_or, true_or, true_and] at hz;exact ⟨List.length_eq_zero_iff.1 (by omega), hz.2.2.2.2.2.1⟩
def rkL (l : List Evt) (e : Evt) : Nat := l.findIdx fun x => decide (Ah x = Ah e)
theorem T8 {l : List Evt} (h : Val l) (hn : l.length ≤ 400) : EvsOk l (rkL l) := by
 refine ⟨hn, h.nod, fun e he => ?_, fun e he h5 b t hb e' hf => ?_, fun e he => ?_⟩
 · obtain ⟨a, c, _, _, hv, h3⟩ := h.mem he;refine ⟨hv, ?_⟩;by_cases hw : O1 e = true
   · have := Xf h3.ck hw; omega
   · rw [(Xb h3.ck (by simpa using hw)).2]; simp
 · obtain ⟨a, c, rfl, h1, hv, h3⟩ := h.mem he;by_cases hw : O1 e = true
   · obtain ⟨_, _, g, hg, _, _, hi, _⟩ := Ju h1 h3 hw b (by rw [hb]; simp);have hi' : Ah e' = b := by simpa using List.find?_some hf
     have e1 : rkL (a ++ e :: c) e' < a.length := by
      unfold rkL;rw [List.findIdx_append];have : List.findIdx (fun x => decide (Ah x = Ah e')) a < a.length := List.findIdx_lt_length_of_exists ⟨g, hg, by simp [hi, hi']⟩;rw [if_pos this]; exact this
     have e2 : a.length ≤ rkL (a ++ e :: c) e := by
      unfold rkL;rw [List.findIdx_append];have : ¬ List.findIdx (fun x => decide (Ah x = Ah e)) a < a.length := fun q => by
       have := List.findIdx_getElem (w := q);simp only [decide_eq_true_eq] at this;exact Gu h1 h3 _ (List.getElem_mem _) this
      rw [if_neg this]; omega
     omega
   · rw [(Xb h3.ck (by simpa using hw)).1] at hb; cases hb
 · exact List.findIdx_lt_length_of_exists ⟨e, he, by simp⟩
theorem T7 {l : List Evt} (h : Val l) : ∀ e ∈ l, 1 ≤ e.rep ∧ e.rep ≤ 8 := fun e he => by
 obtain ⟨a, c, _, _, hv, h3⟩ := h.mem he;exact ⟨(Cx h3.ck).1, (Cx h3.ck).2.1⟩
open Classical in
noncomputable def Anu (out : List Evt) (e : Evt) : List Evt := if Ed (An out) e = 0 then out ++ [e] else out
noncomputable def Me (l : List Evt) : List Evt := l.foldl Anu []
theorem Vj (l : List Evt) (e : Evt) : Me (l ++ [e]) = Anu (Me l) e := by simp [Me]
theorem Acg : ∀ l : List Evt, (∀ e ∈ l, ev e) → Val (Me l) ∧ (Me l).length ≤ l.length ∧ ∀ e ∈ Me l, e ∈ l :=
 Vy (fun _ => ⟨Val.nil, Nat.le_refl _, fun e he => by cases he⟩) fun l e ih hl => by
  obtain ⟨h1, h2, h3⟩ := ih fun f hf => hl f (List.mem_append_left _ hf);rw [Vj];unfold Anu;split
  · rename_i hw;refine ⟨Val.snoc h1 (hl e (by simp)) hw, by simp only [List.length_append, List.length_singleton]; omega, fun f hf => ?_⟩;rcases List.mem_append.1 hf with hf | hf
    · exact List.mem_append_left _ (h3 f hf)
    · exact List.mem_append_right _ hf
  · exact ⟨h1, by simp only [List.length_append, List.length_singleton]; omega, fun f hf => List.mem_append_left _ (h3 f hf)⟩
theorem Ar6 (x : Ent) : Ec [K1.int .i64, K1.int .u32, K1.int .i64, K1.int .u32, .str, K1.int .i64, K1.int .u32, .int .u32, .int .u32, .int .u32, .int .u32, .int .u32, .int .u32, .int .u32, .int .u32] (Bm x) = True := eq_true rfl
theorem Gm (c : List PV) : Qc c c = true := by simp [Qc]
def Vm (f g : Bool) (l m : List Ent) (k : Nat) : FS := mk [(5, .pv (.i .i64 k)), (0, .pv (.sl f 15 (l.map Bm))), (1, .pv (.sl g 15 (m.map Bm)))] []
theorem Apg {x y : SV} {f g : Bool} {l m : List Ent} {h d} (hx : Cn h [x, y] = [.pv (.sl f 15 (l.map Bm)), .pv (.sl g 15 (m.map Bm))]) (hl : Be [x, y] = true) (he : l = m) (hn : l.length ≤ 1000) :
 FunOk Tryz.prog 63 [x, y] h d (.pv (.b true)) [] := by
 refine Ci Ag fn63 (by simp) hl rfl fun F => ?_;subst he;rw [hx];simp (disch := omega) only [ir63, List.length_map, go_sem];refine A1 Ag (Vm f g l l) (fun k => k ≤ l.length) (fun k => l.length - k) 0 (by simp) (Ak ?_ ?_) fun k hk => ?_
 · simp (disch := omega) only [go_sem]
 · simp (disch := omega) only [go_sem]
 by_cases hlt : k < l.length
 · have h2 : (l.map Bm)[k]? = some (Bm l[k]) := by simp [hlt]
   generalize l[k] = v at *;have hp := Gm (Bm v);have hf := Ar6 v;simp (disch := omega) only [Vm, List.length_map, h2, Ff, hp, hf, go_sem];refine Ad (k + 1) _ _ rfl (by omega) (by omega) ?_ ?_
   · simp (disch := omega) only [go_sem]
   · simp (disch := omega) only [go_sem]
 · simp (disch := omega) only [Vm, List.length_map, go_sem]
end Go.Proofs.YthmjebkldgdeiaaGreat.Fw
