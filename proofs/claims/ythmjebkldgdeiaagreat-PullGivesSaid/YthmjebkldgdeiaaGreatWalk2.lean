/- What the functions compute that the laws of this seat reach. -/
import Derived.Test.YthmjebkldgdeiaaGreatWalk1
import Derived.OpenShut
import Derived.ShutString
import Derived.ChangeOld
import Derived.SizedLaws
import Derived.ChangeOld
import Derived.Lib.Bytealg
import Derived.Lib.Overlaps
import Derived.OpenShut
import Derived.ShutString
import Derived.SizedLaws
set_option linter.unusedVariables false
set_option linter.unusedSimpArgs false
set_option linter.unusedSectionVars false
set_option maxRecDepth 100000
namespace Go.Proofs.YthmjebkldgdeiaaGreat.Fw
open Go.RowKit Go.Proofs
structure Obj where
 id : Bn
 dir : Bool
 last : Bn
 name : List UInt8
 seen : Vc
 vers : List Ver
def Fu (f : Bool) (z : Nat) (o : Obj) : List PV := [.i .i64 o.id.1, .i .u32 o.id.2, .b o.dir, .i .i64 o.last.1, .i .u32 o.last.2, .s o.name] ++ vE o.seen ++ [.sl f z (o.vers.map Bf)]
def Aq (o : Obj) : List PV := Fu false 11 o
theorem Es (f z) (o : Obj) : (Fu f z o).length = 15 := by simp [Fu, Bl]
theorem E8 (o : Obj) : (Aq o).length = 15 := Es _ _ o
theorem Ajh {f : Bool} {z : Nat} (o : Obj) (h : o.vers = [] ∨ z = 11) : PImpL (Fu f z o) (Aq o) := by
 refine PImpL.app (PImpL.refl _) ⟨Hj (by simp) (h.imp (fun e => by rw [e]; rfl) id) (.refl _), trivial⟩
theorem Amb (f : Bool) (z : Nat) (o : Obj) (K : KK) : LoadK (some (Fu f z o)) 0 2 true K = K (.vec 2 ([.i .i64 o.id.1, .i .u32 o.id.2])) [] := by
 simp only [LoadK, Hv, eq_iff_iff];have e : ((Fu f z o).drop 0).take 2 = [.i .i64 o.id.1, .i .u32 o.id.2] := by
  obtain ⟨i, b, l, n, s, v⟩ := o;simp only [Fu, vE, Cj]; rfl
 rw [e];exact ⟨fun h => h.2.2, fun h => ⟨by simp [Es], .inl trivial, h⟩⟩
theorem Ael (f : Bool) (z : Nat) (o : Obj) (K : KK) : LoadK (some (Fu f z o)) 3 2 true K = K (.vec 2 ([.i .i64 o.last.1, .i .u32 o.last.2])) [] := by
 simp only [LoadK, Hv, eq_iff_iff];have e : ((Fu f z o).drop 3).take 2 = [.i .i64 o.last.1, .i .u32 o.last.2] := by
  obtain ⟨i, b, l, n, s, v⟩ := o;simp only [Fu, vE, Cj]; rfl
 rw [e];exact ⟨fun h => h.2.2, fun h => ⟨by simp [Es], .inl trivial, h⟩⟩
theorem Aek (f : Bool) (z : Nat) (o : Obj) (K : KK) : LoadK (some (Fu f z o)) 6 8 true K = K (.vec 8 (vE o.seen)) [] := by
 simp only [LoadK, Hv, eq_iff_iff];have e : ((Fu f z o).drop 6).take 8 = vE o.seen := by
  obtain ⟨i, b, l, n, s, v⟩ := o;simp only [Fu, vE, Cj]; rfl
 rw [e];exact ⟨fun h => h.2.2, fun h => ⟨by simp [Es], .inl trivial, h⟩⟩
theorem Ag1 (f : Bool) (z : Nat) (o : Obj) (K : KK) : LoadK (some (Fu f z o)) 2 1 false K = K (.pv (.b o.dir)) [] := by
 simp only [LoadK, Hv, eq_iff_iff];have e : (Fu f z o).getD 2 (.b false) = .b o.dir := by
  obtain ⟨i, b, l, n, s, v⟩ := o;simp only [Fu, vE, Cj]; rfl
 rw [e];exact ⟨fun h => h.2.2, fun h => ⟨by simp [Es], .inr trivial, h⟩⟩
theorem Aej (f : Bool) (z : Nat) (o : Obj) (K : KK) : LoadK (some (Fu f z o)) 14 1 false K = K (.pv (.sl f z (o.vers.map Bf))) [] := by
 simp only [LoadK, Hv, eq_iff_iff];have e : (Fu f z o).getD 14 (.b false) = .sl f z (o.vers.map Bf) := by
  obtain ⟨i, b, l, n, s, v⟩ := o;simp only [Fu, vE, Cj]; rfl
 rw [e];exact ⟨fun h => h.2.2, fun h => ⟨by simp [Es], .inr trivial, h⟩⟩
theorem Axx (f : Bool) (z : Nat) (o : Obj) (K : KK) : LoadK (some (Fu f z o)) 0 15 true K = K (.vec 15 (Fu f z o)) [] := by
 simp only [LoadK, Hv, eq_iff_iff];have e : ((Fu f z o).drop 0).take 15 = Fu f z o := List.take_of_length_le (by simp [Es]);rw [e];exact ⟨fun h => h.2.2, fun h => ⟨by simp [Es], .inl trivial, h⟩⟩
theorem Im (o : Obj) (K : KK) : LoadK (some (Aq o)) 0 2 true K = K (.vec 2 [.i .i64 o.id.1, .i .u32 o.id.2]) [] := Amb _ _ o K
theorem J0 (o : Obj) (K : KK) : LoadK (some (Aq o)) 3 2 true K = K (.vec 2 [.i .i64 o.last.1, .i .u32 o.last.2]) [] := Ael _ _ o K
theorem P2 (o : Obj) (K : KK) : LoadK (some (Aq o)) 6 8 true K = K (.vec 8 (vE o.seen)) [] := Aek _ _ o K
theorem Fc (o : Obj) (K : KK) : LoadK (some (Aq o)) 2 1 false K = K (.pv (.b o.dir)) [] := Ag1 _ _ o K
theorem Fv (o : Obj) (K : KK) : LoadK (some (Aq o)) 14 1 false K = K (.pv (.sl false 11 (o.vers.map Bf))) [] := Aej _ _ o K
theorem Gk (o : Obj) (K : KK) : LoadK (some (Aq o)) 0 15 true K = K (.vec 15 (Aq o)) [] := Axx _ _ o K
theorem Wh (o : Obj) (i : Bn) : splice (Aq o) 3 ([.i .i64 i.1, .i .u32 i.2]) = Aq { o with last := i } := by
 obtain ⟨i, b, l, n, s, v⟩ := o;simp only [splice, Aq, Fu, vE, Cj]; rfl
theorem Wg (o : Obj) (s : List UInt8) : splice (Aq o) 5 ([.s s]) = Aq { o with name := s } := by
 obtain ⟨i, b, l, n, s, v⟩ := o;simp only [splice, Aq, Fu, vE, Cj]; rfl
theorem Wf (o : Obj) (v : Vc) : splice (Aq o) 6 (vE v) = Aq { o with seen := v } := by
 obtain ⟨i, b, l, n, s, v⟩ := o;simp only [splice, Aq, Fu, vE, Cj]; rfl
theorem Ac9 (o : Obj) (f : Bool) (z : Nat) (l : List Ver) : splice (Aq o) 14 ([.sl f z (l.map Bf)]) = Fu f z { o with vers := l } := by
 obtain ⟨i, b, l, n, s, v⟩ := o;simp only [splice, Aq, Fu, vE, Cj]; rfl
def obN (o : Obj) : Ent := ⟨o.id, (0, 0), [], (0, 0), fun _ => 0⟩
def En (l : List Obj) : Prop := Ds (l.map obN)
def Bt (l : List Obj) (i : Bn) : Nat := F7 (l.map obN) i
def isO (l : List Obj) (i : Bn) : Bool := Ra (l.map obN) i
structure St where
 known : Vc
 objs : List Obj
 ents : List Ent
 wards : Nat → Int
 ret : Nat → Bool
def A6 (s : St) (x y : SV) : List SV := [.vec 8 (vE s.known), x, y, .vec 8 (iE s.wards), .vec 8 (wE s.ret)]
def Ba (s : St) : List SV := A6 s (.pv (.sl false 15 (s.objs.map Aq))) (.pv (.sl false 15 (s.ents.map Bq)))
def st0 : St := ⟨fun _ => 0, [], [], fun _ => 0, fun _ => false⟩
theorem U6 {s : St} {f g : Bool} {y z : Nat} {es fs : List (List PV)} (hy : es = [] ∨ y = 15) (hz : fs = [] ∨ z = 15) (he : PImpR es (s.objs.map Aq)) (hf : PImpR fs (s.ents.map Bq)) : Imp (.agg (A6 s (.pv (.sl f y es)) (.pv (.sl g z fs)))) (.agg (Ba s)) :=
 Xm ⟨⟨Imp.refl _, rfl⟩, ⟨Tf (Hj (by simp) hy he), rfl⟩, ⟨Tf (Hj (by simp) hz hf), rfl⟩, ⟨Imp.refl _, rfl⟩, ⟨Imp.refl _, rfl⟩, trivial⟩
theorem Wq : Imp (.agg [.vec 8 (List.replicate 8 (.i .u32 0)), .pv (.sl true 0 []), .pv (.sl true 0 []), .vec 8 (List.replicate 8 (.i .i64 0)), .vec 8 (List.replicate 8 (.b false))]) (.agg (Ba st0)) :=
 U6 (s := st0) (.inl rfl) (.inl rfl) trivial trivial
theorem A2q {m n lo hi : Nat} {es fs : List (List PV)} {h} (hm : h m = some (.row 15 fs)) (hn : h n = some (.row 15 es)) (hne : m ≠ n) (hfs : fs ≠ []) (hes : es ≠ []) (hlt : lo < hi) : Aag Tryz.prog 153 [.os m, .ov n 15 lo hi] h (.pv (.b false)) := by
 intro F N ρ s a w hR hh vs hc;simp only [ConcL] at hc;obtain ⟨v, us, rfl, hv, u, us', rfl, hu, rfl⟩ := hc;have hsm := (hh m (by simp [A3, tn])).trans hm;have hsn := (hh n (by simp [A3, tn])).trans hn;refine ⟨.bool false, ?_, E4⟩;rw [run_callFunc_extern (fn := (Tryz.prog.funcs[153]?).getD default) (by kernel_rfl) (by kernel_rfl) (by kernel_rfl) (by kernel_rfl) (e := Extern.SlicesOverlaps.overlaps #[43, 43] #[4]) (by kernel_rfl)];rw [Jw (tS := 43) (e := 116) (by kernel_rfl) (by kernel_rfl) (by decide) hR hsm hsn hne hfs hes hlt hv hu];rfl
set_option maxHeartbeats 4000000 in
theorem W5 (es : List (List PV)) (cs : List PV) (i : Nat) (hi : i ≤ es.length) (hb : es.length ≤ 1000) (hes : ∀ c ∈ es, c.length = 15) (hcs : cs.length = 15) {h d} (h1 : h 900 = some (.row 15 es)) (h2 : h 901 = some (.row 15 [cs])) : FunOk Tryz.prog 137 [.os 900, .pv (.i .i64 i), .os 901] h d (.os d) [.del 900, .del 901, .new d (.row 15 (es.take i ++ cs :: es.drop i))] := by
 refine Ab4 Af fn137 (by simp) rfl fun F => ?_;simp only [C0];by_cases he : i = es.length
 · subst he;have e1 : es.take es.length ++ cs :: es.drop es.length = es ++ [cs] := by simp
   rw [e1];simp (disch := omega) only [ir137, h1, h2, go_sem]
 · have hne : es ≠ [] := by intro e; subst e; simp at hi; exact he (by simpa using hi)
   simp (disch := omega) only [ir137, h1, h2, go_sem];intro c hc;by_cases hcap : c < es.length + 1
   · have hp : ((c : Int) < (es.length : Int) + ((1 : Nat) : Int)) = True := eq_true (by omega);have ek : ((es.length : Int) + ((1 : Nat) : Int) - (i : Int)).toNat = es.length + 1 - i := by omega
     (try simp only [Cf, Ce, Cd, Cc, Cb, Ca, B9, B0]); simp (disch := omega) only [hp, ek, go_sem]
     generalize hT : List.take i es ++ List.replicate (es.length + 1 - i) _ = T;have hTl : T.length = es.length + 1 := by rw [← hT]; simp; omega
     have t1 : T.take i = es.take i := by
      rw [← hT, List.take_append_of_le_length (by simp; omega), List.take_take, Nat.min_self]
     have hi' : (es.take i).length = i := by simp; omega
     have m1 : min 1 (es.length + 1 - i) = 1 := by omega
     have m2 : [cs].take (es.length + 1 - i) = [cs] := List.take_of_length_le (by simp; omega);have hU : (es.take i ++ [cs] ++ T.drop (i + 1)).length = es.length + 1 := by simp [hTl]; omega
     have e1 : ((i : Int) + ((1 : Nat) : Int)).toNat = i + 1 := by omega
     have u1 : (es.take i ++ [cs] ++ T.drop (i + 1)).take (i + 1) = es.take i ++ [cs] := by
      rw [List.take_append_of_le_length (by simp; omega)];exact List.take_of_length_le (by simp; omega)
     have u2 : (es.take es.length).drop i = es.drop i := by rw [List.take_length]
     have u3 : min (es.drop i).length (es.length + 1 - (i + 1)) = es.length - i := by simp
     have u4 : (es.drop i).take (es.length + 1 - (i + 1)) = es.drop i := List.take_of_length_le (by simp);have u5 : (es.take i ++ [cs] ++ T.drop (i + 1)).drop (i + 1 + (es.length - i)) = [] := List.drop_of_length_le (by rw [hU]; omega);have u6 : es.take i ++ cs :: es.drop i = es.take i ++ [cs] ++ es.drop i := by simp
     simp only [hTl, t1, m1, m2, e1, List.length_singleton];simp only [hU, u1, u2, u3, u4, u5, u6, List.append_nil];exact ⟨by omega, by omega, trivial⟩
   · have hp : ((c : Int) < (es.length : Int) + ((1 : Nat) : Int)) = False := eq_false (by omega)
     (try simp only [Cf, Ce, Cd, Cc, Cb, Ca, B9, B0]); simp (disch := omega) only [hp, go_sem]
     intro g hg hgs;have hg1 : g.length = 1 := by omega
     have e1 : ((i : Int) + ((1 : Nat) : Int)).toNat = i + 1 := by omega
     have hE : (es ++ g).length = es.length + 1 := by simp [hg1]
     refine ⟨by omega, ?_⟩;rw [e1];refine Rx (A2q (es := es ++ g) (fs := [cs]) rfl rfl (by decide) (by simp) (by simp [hne]) (by omega)) ?_;have v1 : ((es ++ g).take (es ++ g).length).drop i = (es ++ g).drop i := by rw [List.take_length]
     have v2 : min ((es ++ g).drop i).length ((es ++ g).length - (i + 1)) = es.length - i := by simp [hg1]; omega
     have v3 : ((es ++ g).drop i).take ((es ++ g).length - (i + 1)) = es.drop i := by
      rw [hE, List.drop_append_of_le_length hi, show es.length + 1 - (i + 1) = (es.drop i).length from by simp];exact List.take_left
     have v4 : (es ++ g).drop (i + 1 + (es.length - i)) = [] := List.drop_of_length_le (by omega);have v5 : ((es ++ g).take (i + 1) ++ es.drop i).length = es.length + 1 := by simp [hg1]; omega
     have v6 : ((es ++ g).take (i + 1) ++ es.drop i).take i = es.take i := by
      rw [List.take_append_of_le_length (by simp; omega), List.take_take, Nat.min_eq_left (by omega), List.take_append_of_le_length hi]
     have v7 : ((es ++ g).take (i + 1) ++ es.drop i).drop (i + 1) = es.drop i := by
      rw [List.drop_append_of_le_length (by simp; omega), List.drop_of_length_le (by simp; omega), List.nil_append]
     have m1 : min 1 (es.length + 1 - i) = 1 := by omega
     have m2 : [cs].take (es.length + 1 - i) = [cs] := List.take_of_length_le (by simp; omega);have u6 : es.take i ++ cs :: es.drop i = es.take i ++ [cs] ++ es.drop i := by simp
     simp (disch := omega) only [e1, v1, v2, v3, v4, v5, v6, v7, m1, m2, u6, go_sem]
theorem Aqt {m n : Nat} (es : List (List PV)) (cs : List PV) (i : Nat) (hi : i ≤ es.length) (hb : es.length ≤ 1000) (hes : ∀ c ∈ es, c.length = 15) (hcs : cs.length = 15) (hmn : m ≠ n) (hm : m < 900) (hn : n < 900) {h d} (hd : d ≠ m ∧ d ≠ n ∧ d < 900) (h1 : h m = some (.row 15 es)) (h2 : h n = some (.row 15 [cs])) : FunOk Tryz.prog 137 [.os m, .pv (.i .i64 i), .os n] h d (.os d) [.del m, .del n, .new d (.row 15 (es.take i ++ cs :: es.drop i))] := by
 have hπ := Aiq (a := 900) (m := m) (b := 901) (n := n) (by omega) (by omega) (by omega) hmn;have e1 : sw2 900 m 901 n 900 = m := by unfold sw2; simp
 have e2 : sw2 900 m 901 n 901 = n := by unfold sw2; repeat' split <;> (try omega)
 have e3 : sw2 900 m 901 n d = d := by unfold sw2; repeat' split <;> (try omega)
 have := (W5 es cs i hi hb hes hcs (h := fun k => (h (sw2 900 m 901 n k))) (d := d) (by rw [← h1, e1]) (by rw [← h2, e2])).rn (π := sw2 900 m 901 n) hπ (d' := d);simp only [SV.rnL, SV.rn, HU.rn, Blk.rn, List.map_cons, List.map_nil, e1, e2, e3] at this;refine this.at fun k hk => ?_;simp only [A3, tn, List.append_nil, List.nil_append, List.mem_append, List.mem_singleton] at hk;simp only [hπ];rcases hk with rfl | rfl
 · rw [h1]; rfl
 · rw [h2]; rfl
theorem Ara (x : Obj) (b : Bn) {h d} : FunOk Tryz.prog 152 [.vec 15 (Aq x), .vec 2 [.i .i64 b.1, .i .u32 b.2]] h d (.pv (.i .i64 (I7 x.id b))) [] := by
 refine Al Af fn152 (by simp) rfl rfl fun F => ?_;simp (disch := omega) only [ir152, Im, go_sem];refine Aa (Nf _ _ _ _) ?_;by_cases h1 : Cl x.id.1 x.id.2 b.1 b.2 = true
 · have e : I7 x.id b = -1 := if_pos h1;simp (disch := omega) only [h1, e, go_sem]
 · have h1' : Cl x.id.1 x.id.2 b.1 b.2 = false := by simpa using h1
   simp (disch := omega) only [h1', Im, go_sem];refine Aa (Nf _ _ _ _) ?_;by_cases h2 : Cl b.1 b.2 x.id.1 x.id.2 = true
   · have e : I7 x.id b = 1 := by unfold I7; rw [if_neg h1, if_pos h2]
     simp (disch := omega) only [h2, e, go_sem]
   · have h2' : Cl b.1 b.2 x.id.1 x.id.2 = false := by simpa using h2
     have e : I7 x.id b = 0 := by unfold I7; rw [if_neg h1, if_neg h2]
     simp (disch := omega) only [h2', e, go_sem]
theorem Ajk {l : List Obj} {j : Nat} {y : Ent} (h : (l.map obN)[j]? = some y) : ∃ o, l[j]? = some o ∧ y.id = o.id := by
 rw [List.getElem?_map] at h;obtain ⟨o, h1, h2⟩ := Option.map_eq_some_iff.1 h;exact ⟨o, h1, by rw [← h2]; rfl⟩
theorem Vl {l : List Obj} {j : Nat} {o : Obj} (h : l[j]? = some o) : (l.map obN)[j]? = some (obN o) := by rw [List.getElem?_map, h]; rfl
theorem K5 {l : List Obj} (hs : En l) {j m : Nat} {x v : Obj} (hj : l[j]? = some x) (hm : l[m]? = some v) (h : j < m) : Ic x.id v.id = true := Wl (l := l.map obN) hs (Vl hj) (Vl hm) h
theorem Aww {l : List Obj} {i : Bn} {k : Nat} (hk : k ≤ l.length) (h1 : ∀ j x, j < k → l[j]? = some x → Ic x.id i = true) (h2 : ∀ x, l[k]? = some x → ¬ Ic x.id i = true) : Bt l i = k :=
 Ai3 (l := l.map obN) (by simpa using hk) (fun j x hj hx => by
  obtain ⟨o, h3, h4⟩ := Ajk hx;rw [h4]; exact h1 j o hj h3) fun x hx => by
  obtain ⟨o, h3, h4⟩ := Ajk hx;rw [h4]; exact h2 o h3
theorem L0 (l : List Obj) (i : Bn) : Bt l i ≤ l.length := by have := Aba (l.map obN) i; simpa [Bt] using this
theorem Q9 {l : List Obj} (hs : En l) (i : Bn) : isO l i = match l[Bt l i]? with | some x => decide (x.id = i) | none => false := by
 have h := Q2 (l := l.map obN) hs i;unfold isO Ra;rw [h];show _ = match l[Bt l i]? with | some x => decide (x.id = i) | none => false
 unfold Bt;cases hx : l[F7 (l.map obN) i]? with
 | none => rw [List.getElem?_map, hx]; rfl
 | some x =>
   rw [List.getElem?_map, hx];show (if x.id = i then some (obN x) else none).isSome = decide (x.id = i);by_cases e : x.id = i <;> simp [e]
theorem A3s {l : List Obj} (hs : En l) {i : Bn} (h : isO l i = true) : ∃ o, l[Bt l i]? = some o ∧ o.id = i := by
 rw [Q9 hs] at h;cases hx : l[Bt l i]? with
 | none => rw [hx] at h; cases h
 | some x => rw [hx] at h; exact ⟨x, rfl, by simpa using h⟩
def Aa0 (f : Bool) (l : List Obj) (i : Bn) (p : Nat × Nat) : FS := mk [(9, .pv (.i .i64 p.1)), (10, .pv (.i .i64 p.2)), (8, .pv (.i .i64 l.length)), (0, .pv (.sl f 15 (l.map Aq))), (2, .fn (.func 152) []), (4, .p 4 0)] [(4, some (.var (.vec 2 [.i .i64 i.1, .i .u32 i.2])))]
set_option maxHeartbeats 1000000 in
theorem A2w {x : SV} {f : Bool} {l : List Obj} (i : Bn) {h d} (hx : Cw h [x, .vec 2 [.i .i64 i.1, .i .u32 i.2], .fn (.func 152) []] = [.pv (.sl f 15 (l.map Aq)), .vec 2 [.i .i64 i.1, .i .u32 i.2], .fn (.func 152) []]) (hl : Bj [x, .vec 2 [.i .i64 i.1, .i .u32 i.2], .fn (.func 152) []] = true) (hs : En l) (hn : l.length ≤ 1000) :
 FunOk Tryz.prog 151 [x, .vec 2 [.i .i64 i.1, .i .u32 i.2], .fn (.func 152) []] h d (.tup [.pv (.i .i64 (Bt l i)), .pv (.b (isO l i))]) [] := by
 refine C5 Af fn151 (by simp) hl rfl fun F => ?_;rw [hx];simp (disch := omega) only [ir151, List.length_map, go_sem];refine A0 Af (Aa0 f l i) (fun p => p.1 ≤ p.2 ∧ p.2 ≤ l.length ∧ (∀ j x, j < p.1 → l[j]? = some x → Ic x.id i = true) ∧ ∀ j x, p.2 ≤ j → l[j]? = some x → ¬ Ic x.id i = true) (fun p => p.2 - p.1) (0, l.length) ⟨by simp, by simp, by simp, fun j x hj hx => by simp only at hj; rw [List.getElem?_eq_none hj] at hx; cases hx⟩ (Ah ?_ ?_) fun p hp => ?_
 · (try simp only [Cf, Ce, Cd, Cc, Cb, Ca, B9, B0]); simp (disch := omega) only [go_sem]
 · simp (disch := omega) only [go_sem]
 obtain ⟨a, b⟩ := p;obtain ⟨p1, p2, p3, p4⟩ := hp;simp only at p1 p2 p3 p4;by_cases hlt : a < b
 · have hm : (a + b) / 2 < l.length := by omega
   have hx : l[(a + b) / 2]? = some l[(a + b) / 2] := List.getElem?_eq_getElem hm;have he : (l.map Aq)[(a + b) / 2]? = some (Aq l[(a + b) / 2]) := by rw [List.getElem?_map, hx]; rfl
   have e1 : ((a : Int) + (b : Int)).fdiv (2 ^ min (Int.toNat 1) 64) = (((a + b) / 2 : Nat) : Int) := by
    rw [show (2 : Int) ^ min (Int.toNat 1) 64 = 2 from rfl, Int.fdiv_eq_ediv_of_nonneg _ (by omega)]; omega
   have hm1 : a ≤ (a + b) / 2 := by omega
   have hm2 : (a + b) / 2 < b := by omega
   generalize l[(a + b) / 2] = v at *;generalize (a + b) / 2 = m at *;simp (disch := omega) only [Aa0, List.length_map, e1, he, Gk, go_sem];refine Aa (Ara v i) ?_;by_cases hc : Ic v.id i = true
   · have e2 : (I7 v.id i < 0) = True := by rw [Vr]; exact eq_true hc
     simp (disch := omega) only [e2, go_sem];refine Ad (x := (a, b)) (m + 1, b) _ _ rfl ⟨by show m + 1 ≤ b; omega, p2, fun j x hj hx' => ?_, p4⟩ (by show b - (m + 1) < b - a; omega) ?_ ?_
     · by_cases e : j = m
       · subst e; rw [hx] at hx'; cases hx'; exact hc
       · exact He (K5 hs hx' hx (by simp only at hj; omega)) hc
     · (try simp only [Cf, Ce, Cd, Cc, Cb, Ca, B9, B0]); simp (disch := omega) only [go_sem]
     · simp (disch := omega) only [go_sem]
   · have e2 : (I7 v.id i < 0) = False := by rw [Vr]; exact eq_false hc
     simp (disch := omega) only [e2, go_sem];refine Ad (x := (a, b)) (a, m) _ _ rfl ⟨by show a ≤ m; omega, by show m ≤ _; omega, p3, fun j x hj hx' => ?_⟩ (by show m - a < b - a; omega) ?_ ?_
     · by_cases e : j = m
       · subst e; rw [hx] at hx'; cases hx'; exact hc
       · exact fun q => hc (He (K5 hs hx hx' (by simp only at hj; omega)) q)
     · (try simp only [Cf, Ce, Cd, Cc, Cb, Ca, B9, B0]); simp (disch := omega) only [go_sem]
     · simp (disch := omega) only [go_sem]
 · obtain rfl : a = b := by omega
   have hpos : Bt l i = a := Aww p2 p3 fun x hx' => p4 a x (Nat.le_refl a) hx';have hk := Q9 hs i;rw [hpos] at hk;by_cases hal : a < l.length
   · have hx' : l[a]? = some l[a] := List.getElem?_eq_getElem hal;have he : (l.map Aq)[a]? = some (Aq l[a]) := by rw [List.getElem?_map, hx']; rfl
     rw [hx'] at hk;simp only at hk;generalize l[a] = v at *;simp (disch := omega) only [Aa0, hal, he, Gk, List.length_map, go_sem];refine Aa (Ara v i) ?_;by_cases hv : v.id = i
     · have e2 : (I7 v.id i = 0) = True := by rw [Vs]; exact eq_true hv
       have e3 : isO l i = true := by rw [hk]; simp [hv]
       simp (disch := omega) only [e2, e3, hpos, go_sem]
     · have e2 : (I7 v.id i = 0) = False := by rw [Vs]; exact eq_false hv
       have e3 : isO l i = false := by rw [hk]; simp [hv]
       simp (disch := omega) only [e2, e3, hpos, go_sem]
   · rw [List.getElem?_eq_none (by omega)] at hk;simp (disch := omega) only [Aa0, hal, hpos, hk, go_sem]
theorem Ni {x : SV} {f : Bool} {l : List Obj} (i : Bn) {h d} (hx : Cw h [x, .vec 2 [.i .i64 i.1, .i .u32 i.2]] = [.pv (.sl f 15 (l.map Aq)), .vec 2 [.i .i64 i.1, .i .u32 i.2]]) (hl : Bj [x, .vec 2 [.i .i64 i.1, .i .u32 i.2]] = true) (hs : En l) (hn : l.length ≤ 1000) :
 FunOk Tryz.prog 136 [x, .vec 2 [.i .i64 i.1, .i .u32 i.2]] h d (.tup [.pv (.i .i64 (Bt l i)), .pv (.b (isO l i))]) [] := by
 refine C5 Af fn136 (by simp) hl rfl fun F => ?_;rw [hx];simp (disch := omega) only [ir136, go_sem];refine Aa (A2w (l := l) i rfl rfl hs hn) ?_;simp (disch := omega) only [go_sem]
def Ky (l : List Obj) (i : Bn) : Int := if i = (0, 0) then 0 else match l[Bt l i]? with
 | some o => if o.id = i then (if o.dir = true then 0 else 22) else 2
 | none => 2
theorem A4k {l : List Obj} (hs : En l) {i : Bn} (h : i ≠ (0, 0)) (k : isO l i = false) : Ky l i = 2 := by
 unfold Ky; rw [if_neg h];rw [Q9 hs] at k;cases hx : l[Bt l i]? with
 | none => rfl
 | some x => rw [hx] at k; simp only at k ⊢; rw [if_neg (by simpa using k)]
theorem A4j {l : List Obj} {i : Bn} {o : Obj} (h : i ≠ (0, 0)) (k : l[Bt l i]? = some o) (ho : o.id = i) : Ky l i = if o.dir = true then 0 else 22 := by
 unfold Ky; rw [if_neg h, k]; simp only; rw [if_pos ho]
theorem Acp {i : Bn} (h : i = (0, 0)) : i.1 = 0 ∧ i.2 = 0 := by subst h; exact ⟨rfl, rfl⟩
theorem Aqv {s : St} (i : Bn) {h d} (hs : En s.objs) (hn : s.objs.length ≤ 1000) : FunOk Tryz.prog 135 [.agg (Ba s), .vec 2 [.i .i64 i.1, .i .u32 i.2]] h d (.pv (.i .i64 (Ky s.objs i))) [] := by
 refine Al Af fn135 (by simp) rfl rfl fun F => ?_;by_cases h0 : i = (0, 0)
 · have e : Ky s.objs i = 0 := if_pos h0;have hz : Cg i.1 i.2 = true := decide_eq_true (Acp h0);simp (disch := omega) only [ir135, Ba, A6, Ae, Au, Ar, hz, e, go_sem]
 · have hz : Cg i.1 i.2 = false := decide_eq_false fun e => h0 (Prod.ext e.1 e.2);simp (disch := omega) only [ir135, Ba, A6, Ae, Au, Ar, hz, go_sem];refine Aa (Ni (l := s.objs) i rfl rfl hs hn) ?_;by_cases hi : isO s.objs i = true
   · obtain ⟨o, h1, h2⟩ := A3s hs hi;have e := A4j h0 h1 h2;have hlt := (List.getElem?_eq_some_iff.1 h1).1;have he : (s.objs.map Aq)[Bt s.objs i]? = some (Aq o) := by rw [List.getElem?_map, h1]; rfl
     by_cases hd : o.dir = true
     · rw [if_pos hd] at e;simp (disch := omega) only [hi, List.length_map, he, Fc, hd, e, go_sem]
     · rw [if_neg hd] at e;have hd' : o.dir = false := by simpa using hd
       simp (disch := omega) only [hi, List.length_map, he, Fc, hd', e, go_sem]
   · have hi' : isO s.objs i = false := by simpa using hi
     have e := A4k hs h0 hi';simp (disch := omega) only [hi', e, go_sem]
theorem As6 {P : Program} (hm : P.follows .mixedOrders = true) {f N' : Nat} {rs : List Rv} {c : C} (hf : A5 P f = some (N', rs, c)) {args : List SV} {h : Nat → Option Blk} {d : Nat} {sz : Nat} {es : List (List PV)} {X : Nat → SV} (hlen : args.length ≤ N')
 (hargs : SV.closedL args = true) (hX : ∀ (V V' : View) (ρ ρ' : Nat → Value) (n d : Nat) (v : Value), View.le V V' → ρ' d = ρ n → Conc V ρ (X n) v → Conc V' ρ' (X d) v)
 (hrun : ∀ F, sx (Uf P F N') c (O7 rs fun y g => ∃ n, y = X n ∧ g n = some (.row sz es)) (mk (Db 0 args) [])) :
 FunOk P f args h d (X d) [.new d (.row sz es)] := by
 obtain ⟨h1, h2, h3⟩ := Ck hargs;refine ⟨Co hf, fun F N ρ s a w hR hh vs hc => ?_⟩;refine Calls.mono (Dp hm hf (h := h) hlen h2 Jv (by rw [h3]; exact hrun) hR hh hc) fun e w' he => ?_;obtain ⟨v, rfl, hg, N'', ρ', s', a', y, hR', hy, n, rfl, hn⟩ := he;rw [h1, Dv] at hR' hy;obtain ⟨base, cap, g1, g2, g3, g4, g5⟩ := hR'.own n _ hn;have hown : ∀ b, Cr (ρ' n) = some b → w.heap.size ≤ b ∧ b < w'.heap.size := fun b hb => by
  have ho : Cn ρ' s'.h b := ⟨n, _, hn, hb⟩
  exact ⟨(hR'.may b ho).resolve_right id, hR'.lt ho⟩
 have hnew := hR.adopt hg d (.row sz es) (ρ' n) hown fun _ => by
  refine ⟨base, cap, by rw [A1]; exact g1, g2, g3, g4, fun hcap => ?_⟩;obtain ⟨b, vs', ty, fr, k1, k2, k3, k4, k5, k6⟩ := g5 hcap;refine ⟨b, vs', ty, fr, k1, k2, k3, k4, k5, fun i c hi => (k6 i c hi).mono (Bm fun b' c' ho hc' => ⟨fun hb' => ?_, hc'⟩)⟩;rcases hb' with ⟨m, z, hm1, hm2⟩ | hb'
  · by_cases hmd : m = d
    · subst hmd;rw [A1] at hm2;exact ho (.inl ⟨n, _, hn, hm2⟩)
    · rw [Bs hmd] at hm2;simp only [FS.hup, FS.seth, FS.kill, hmd, if_false] at hm1;obtain ⟨z', hz', _⟩ := Option.map_eq_some_iff.1 hm1;exact ho (.inr (.inl ⟨m, z', hz', hm2⟩))
  · exact ho (.inr (.inr hb'))
 refine ⟨v, _, rfl, hnew.1, hX _ _ _ _ _ _ _ (Bm fun b' c' ho hc' => ⟨fun hb' => ?_, hc'⟩) A1 hy⟩;rcases hb' with ⟨m, z, hm1, hm2⟩ | hb'
 · by_cases hmd : m = d
   · subst hmd;rw [A1] at hm2;exact ho (.inl ⟨n, _, hn, hm2⟩)
   · rw [Bs hmd] at hm2;simp only [FS.hup, FS.seth, FS.kill, hmd, if_false] at hm1;obtain ⟨z', hz', _⟩ := Option.map_eq_some_iff.1 hm1;exact ho (.inr (.inl ⟨m, z', hz', hm2⟩))
 · exact ho (.inr (.inr hb'))
theorem Alt {f : Bool} {z : Nat} {es : List (List PV)} {h d} (hz : es = [] ∨ z = 15) (hb : es.length ≤ 1000) : FunOk Tryz.prog 94 [.pv (.sl f z es)] h d (.pv (.sl false 15 es)) [] := by
 refine Ri Af fn94 (by simp) rfl fun F => ?_;simp (disch := omega) only [ir94, go_sem];intro b hb';cases b
 · simp (disch := omega) only [go_sem]
 · have he : es = [] := by
    cases es with
    | nil => rfl
    | cons c l => exact absurd (hb' (by simp)) (by simp)
   subst he
   (try simp only [Cf, Ce, Cd, Cc, Cb, Ca, B9, B0]); simp (disch := omega) only [go_sem]
   decide
theorem Als {f : Bool} {z : Nat} {es : List (List PV)} {h d} (hz : es = [] ∨ z = 11) (hb : es.length ≤ 1000) : FunOk Tryz.prog 95 [.pv (.sl f z es)] h d (.pv (.sl false 11 es)) [] := by
 refine Ri Af fn95 (by simp) rfl fun F => ?_;simp (disch := omega) only [ir95, go_sem];intro b hb';cases b
 · simp (disch := omega) only [go_sem]
 · have he : es = [] := by
    cases es with
    | nil => rfl
    | cons c l => exact absurd (hb' (by simp)) (by simp)
   subst he
   (try simp only [Cf, Ce, Cd, Cc, Cb, Ca, B9, B0]); simp (disch := omega) only [go_sem]
   decide
theorem Ae4 {V V' : View} {ρ ρ' : Nat → Value} {n d : Nat} {a b : List SV} {v : Value} (hV : V.le V') (he : ρ' d = ρ n) (ha : SV.closedL a = true) (hb : SV.closedL b = true) (h : Conc V ρ (.agg (a ++ .os n :: b)) v) : Conc V' ρ' (.agg (a ++ .os d :: b)) v := by
 simp only [Conc] at h ⊢;obtain ⟨vs, rfl, hc⟩ := h;obtain ⟨va, vb, rfl, h1, h2⟩ := Kn hc;simp only [Cells] at h2;obtain ⟨u, ub, rfl, h3, h4, h5, h6⟩ := h2;refine ⟨_, rfl, Mj (Eg hV ha h1) ?_⟩;simp only [Cells];refine ⟨u, ub, rfl, ?_, h4, h5, Eg hV hb h6⟩;simp only [Conc] at h3 ⊢;rw [he]; exact h3
def cpS (k : Nat) : SV := if k = 0 then .pv (.sl true 0 []) else .os 40
def cpK (l : List Obj) (k : Nat) : Option Blk := if k = 0 then none else some (.row 15 ((l.take k).map Aq))
theorem At0 : cpS 0 = .pv (.sl true 0 []) := rfl
theorem Aj8 {k : Nat} (h : k ≠ 0) : cpS k = .os 40 := if_neg h
theorem At1 (l : List Obj) : cpK l 0 = none := rfl
theorem Aj9 {l : List Obj} {k : Nat} (h : k ≠ 0) : cpK l k = some (.row 15 ((l.take k).map Aq)) := if_neg h
def Bu : SV := .agg [.vec 8 (List.replicate 8 (.i .u32 0)), .pv (.sl true 0 []), .pv (.sl true 0 []), .vec 8 (List.replicate 8 (.i .i64 0)), .vec 8 (List.replicate 8 (.b false))]
def Fb (s : St) : SV := .pv (.sl false 15 (s.ents.map Bq))
def Av9 (s : St) (k : Nat) : FS := mk [(15, .pv (.i .i64 k)), (14, .pv (.i .i64 s.objs.length)), (13, .pv (.sl false 15 (s.objs.map Aq))), (3, .p 3 0), (2, .p 2 0)] [(3, some (.var (.agg (A6 s (cpS k) (Fb s))))), (2, some (.var Bu)), (40, cpK s.objs k)]
theorem Cz {α : Type} {l : List α} {k : Nat} {y : α} (h : l[k]? = some y) : l.take (k + 1) = l.take k ++ [y] := by
 rw [List.take_add_one, h]; rfl
theorem Zh (l : List Obj) : ∀ c ∈ l.map Aq, c.length = 15 := fun c hc => by
 obtain ⟨o, _, rfl⟩ := List.mem_map.1 hc;exact E8 o
set_option maxHeartbeats 4000000 in
theorem Tq {s : St} (hn : s.objs.length ≤ 1000) (hv : ∀ o ∈ s.objs, o.vers.length ≤ 1000) (he : s.ents.length ≤ 1000) {F : Fr} {R : SV → (Nat → Option Blk) → Prop}
 (h1 : s.objs = [] → ∀ h, R (.agg (A6 s (.pv (.sl true 0 [])) (Fb s))) h) (h2 : s.objs ≠ [] → ∀ h, h 40 = some (.row 15 (s.objs.map Aq)) → R (.agg (A6 s (.os 40) (Fb s))) h) :
 sx (Uf Tryz.prog F 31) ir53 (O7 [.c 2 26 true] R) (mk (Db 0 [.agg (Ba s)]) []) := by
 simp (disch := omega) only [ir53, Ba, A6, go_sem];refine Aa (Alt (es := s.ents.map Bq) (.inr rfl) (by simpa using he)) ?_;simp (disch := omega) only [List.length_map, go_sem];refine A0 Af (Av9 s) (fun k => k ≤ s.objs.length) (fun k => s.objs.length - k) 0 (by simp) (Ah ?_ ?_) fun k hk => ?_
 · simp (disch := omega) only [go_sem]
 · simp (disch := omega) only [At0, At1, A6, Fb, Bu, go_sem]
 by_cases hlt : k < s.objs.length
 · have hx : s.objs[k]? = some s.objs[k] := List.getElem?_eq_getElem hlt;have hel : (s.objs.map Aq)[k]? = some (Aq s.objs[k]) := by rw [List.getElem?_map, hx]; rfl
   have ht := Cz hx;have hvk := hv _ (List.getElem_mem hlt);generalize s.objs[k] = o at *;have hsp : splice (Aq o) 14 [.sl false 11 (o.vers.map Bf)] = Aq o := Ac9 o false 11 o.vers;have hol := E8 o;have htm : (s.objs.take (k + 1)).map Aq = (s.objs.take k).map Aq ++ [Aq o] := by rw [ht]; simp
   have hkl : ((s.objs.take k).map Aq).length = k := by simp; omega
   simp (disch := omega) only [Av9, A6, List.length_map, hel, Gk, go_sem];simp (disch := omega) only [Fv, go_sem];refine Aa (Als (es := o.vers.map Bf) (.inr rfl) (by simpa using hvk)) ?_;by_cases h0 : k = 0
   · subst h0;simp (disch := omega) only [hsp, At0, At1, Gk, hol, A6, Fb, Bu, go_sem];have hS := Aj8 (k := 1) (by omega);have hK := Aj9 (l := s.objs) (k := 1) (by omega);refine ⟨fun _ => trivial, (1 : Nat), by omega, by show _ - 1 < _ - 0; omega, D6 27 40 (by decide) rfl (Ah ?_ ?_)⟩
     · simp (disch := omega) only [go_sem]
     · simp (disch := omega) only [hS, hK, htm, A6, Fb, Bu, go_sem];rfl
   · have hS := Aj8 h0;have hK := Aj9 (l := s.objs) h0;simp (disch := omega) only [hsp, hS, hK, Gk, hol, A6, Fb, Bu, hkl, go_sem];have hS' := Aj8 (k := k + 1) (by omega);have hK' := Aj9 (l := s.objs) (k := k + 1) (by omega);refine ⟨k + 1, by omega, by omega, D6 27 40 (by decide) rfl (Ah ?_ ?_)⟩
     · simp (disch := omega) only [go_sem]
     · simp (disch := omega) only [hS', hK', htm, A6, Fb, Bu, go_sem]
 · obtain rfl : k = s.objs.length := by omega
   by_cases h0 : s.objs = []
   · have := h1 h0;have e : s.objs.length = 0 := by rw [h0]; rfl
     simp (disch := omega) only [Av9, A6, e, At0, At1, Fb, Bu, go_sem];exact this _
   · have e : s.objs.length ≠ 0 := fun e => h0 (List.eq_nil_of_length_eq_zero e);have hS := Aj8 e;have hK := Aj9 (l := s.objs) e;simp (disch := omega) only [Av9, A6, hS, hK, Fb, Bu, go_sem];exact h2 h0 _ (by simp [mk, lk])
theorem Am2 {P : Program} (hm : P.follows .mixedOrders = true) {f N' : Nat} {rs : List Rv} {c : C} (hf : A5 P f = some (N', rs, c)) {args : List SV} {h : Nat → Option Blk} {d : Nat} {sz : Nat} {es : List (List PV)} {l r : List SV} (hlen : args.length ≤ N')
 (hargs : SV.closedL args = true) (hl : SV.closedL l = true) (hr : SV.closedL r = true) (hrun : ∀ F, sx (Uf P F N') c (O7 rs fun y g => (∃ n, y = .agg (l ++ .os n :: r) ∧ g n = some (.row sz es)) ∨ ∃ z, y = .agg (l ++ .pv (.sl true z []) :: r) ∧ es = []) (mk (Db 0 args) [])) :
 FunOk P f args h d (.agg (l ++ .pv (.sl false sz es) :: r)) [] := by
 obtain ⟨h1, h2, h3⟩ := Ck hargs;refine ⟨Co hf, fun F N ρ s a w hR hh vs hc => ?_⟩;refine Calls.mono (Dp hm hf (h := h) hlen h2 Jv (by rw [h3]; exact hrun) hR hh hc) fun e w' he => ?_;obtain ⟨v, rfl, hg, N'', ρ', s', a', y, hR', hy, hyy⟩ := he;rw [h1, Dv] at hR' hy;refine ⟨v, ρ, rfl, hR.grew hg, ?_⟩;have key : ∀ (x : SV), x.width = 1 → y = .agg (l ++ x :: r) → (∀ u, Conc (vw ⟨w, fun _ => False, F.out ρ s.h, fun _ => undef, []⟩ w' ρ' s') ρ' x u → PConc (vw F w' ρ s) (.sl false sz es) u) → Conc (vw F w' ρ (s.hup [])) ρ (.agg (l ++ .pv (.sl false sz es) :: r)) v := fun x hw e k => by
  subst e;simp only [Conc] at hy ⊢;obtain ⟨vs, rfl, hc⟩ := hy;obtain ⟨va, vb, rfl, g1, g2⟩ := Kn hc;simp only [Cells] at g2;obtain ⟨u, ub, rfl, g3, g4, g5, g6⟩ := g2;refine ⟨_, rfl, Mj (Eg (E5 hR') hl g1) ?_⟩;simp only [Cells];exact ⟨u, ub, rfl, by simp only [Conc]; exact k u g3, g4.trans hw, g5, Eg (E5 hR') hr g6⟩
 rcases hyy with ⟨n, e, hn⟩ | ⟨z, e, rfl⟩
 · refine key _ rfl e fun u hu => ?_;simp only [Conc] at hu;rw [hu.1]; exact Wu hR' hn
 · refine key _ rfl e fun u hu => ?_;simp only [Conc] at hu;exact (Hj (by simp) (.inl rfl) (.refl [])) _ _ (hu.mono (E5 hR'))
structure Fine (s : St) : Prop where
 on : s.objs.length ≤ 500
 ov : ∀ o ∈ s.objs, o.vers.length ≤ 500
 en : s.ents.length ≤ 500
theorem Aq6 {s : St} (hs : Fine s) {h d} : FunOk Tryz.prog 53 [.agg (Ba s)] h d (.agg (A6 s (.os d) (Fb s))) [.new d (.row 15 (s.objs.map Aq))] := by
 have a1 : s.objs.length ≤ 1000 := Nat.le_trans hs.on (by omega);have a2 : ∀ o ∈ s.objs, o.vers.length ≤ 1000 := fun o ho => Nat.le_trans (hs.ov o ho) (by omega);have a3 : s.ents.length ≤ 1000 := Nat.le_trans hs.en (by omega);by_cases h0 : s.objs = []
 · rw [h0];refine FunOk.nilos (a := [.vec 8 (vE s.known)]) (b := [Fb s, .vec 8 (iE s.wards), .vec 8 (wE s.ret)]) (z := 0) (sz := 15) ?_ rfl rfl (by omega);refine Al Af fn53 (by simp) rfl rfl fun F => ?_;exact Tq a1 a2 a3 (fun _ _ => rfl) fun e => absurd h0 e
 · refine As6 (X := fun n => .agg (A6 s (.os n) (Fb s))) Af fn53 (by simp) rfl (fun V V' ρ ρ' n d v hV he hc => Ae4 (a := [.vec 8 (vE s.known)]) (b := [Fb s, .vec 8 (iE s.wards), .vec 8 (wE s.ret)]) hV he rfl rfl hc) fun F => ?_;exact Tq a1 a2 a3 (fun e => absurd e h0) fun _ h hh => ⟨40, rfl, hh⟩
theorem Zf {s : St} (hs : Fine s) {h d} : FunOk Tryz.prog 53 [.agg (Ba s)] h d (.agg (Ba s)) [] := by
 have a1 : s.objs.length ≤ 1000 := Nat.le_trans hs.on (by omega);have a2 : ∀ o ∈ s.objs, o.vers.length ≤ 1000 := fun o ho => Nat.le_trans (hs.ov o ho) (by omega);have a3 : s.ents.length ≤ 1000 := Nat.le_trans hs.en (by omega);refine Am2 (l := [.vec 8 (vE s.known)]) (r := [Fb s, .vec 8 (iE s.wards), .vec 8 (wE s.ret)]) Af fn53 (by simp) rfl rfl rfl fun F => ?_;exact Tq a1 a2 a3 (fun e h => .inr ⟨0, rfl, by rw [e]; rfl⟩) fun _ h hh => .inl ⟨40, rfl, hh⟩
def Akg : List SV → List PV → Prop
 | [], cs => cs = []
 | .pv x :: l, cs => ∃ r, cs = x :: r ∧ Akg l r
 | .vec n c :: l, cs => c.length = n ∧ ∃ r, cs = c ++ r ∧ Akg l r
 | _ :: _, _ => False
theorem Ts {V : View} {ρ : Nat → Value} : ∀ {l : List SV} {cs : List PV} {vs : List Value}, Akg l cs → PCells V cs vs → Cells V ρ l vs
 | [], cs, vs, h, hp => by
   have h : cs = [] := h;subst h;simp only [Cells];exact List.eq_nil_of_length_eq_zero hp.1.symm
 | .pv x :: l, cs, vs, h, hp => by
   obtain ⟨r, rfl, h⟩ := h;simp only [Cells];obtain ⟨v, hv, hx⟩ := hp.2 0 x rfl;cases vs with
   | nil => cases hv
   | cons u us =>
     have : u = v := by simpa using hv
     subst this;have hf : Ax u = [u] := by have := hx.one; cases u <;> simp_all [Ax, A9]
     refine ⟨u, us, by rw [hf]; rfl, by simp only [Conc]; exact hx, by rw [hf]; rfl, fun c hc => ?_, Ts h ⟨by simpa using hp.1, fun j y hy => by simpa using hp.2 (j + 1) y (by simpa using hy)⟩⟩;rw [hf] at hc;rw [List.mem_singleton.1 hc];exact hx.one
 | .vec n c :: l, cs, vs, h, hp => by
   obtain ⟨hn, r, rfl, h⟩ := h;simp only [Cells];have hl : c.length + r.length = vs.length := by simpa using hp.1
   have hA : PCells V c (vs.take n) := ⟨by simp; omega, fun j y hy => by
    have hj := (List.getElem?_eq_some_iff.1 hy).1;obtain ⟨v, h1, h2⟩ := hp.2 j y (by rw [List.getElem?_append_left hj]; exact hy);exact ⟨v, by rw [List.getElem?_take_of_lt (by omega)]; exact h1, h2⟩⟩
   refine ⟨.agg ⟨vs.take n⟩, vs.drop n, (List.take_append_drop n vs).symm, by simp only [Conc]; exact ⟨_, rfl, by simp; omega, hA⟩, by simp [Ax, SV.width]; omega, fun x hx => hA.one x hx, Ts h ⟨by simp; omega, fun j y hy => by
    obtain ⟨v, h1, h2⟩ := hp.2 (n + j) y (by rw [List.getElem?_append_right (by omega)]; simpa [hn] using hy);exact ⟨v, by rw [List.getElem?_drop]; exact h1, h2⟩⟩⟩
 | .agg _ :: _, _, _, h, _ => h.elim
 | .tup _ :: _, _, _, h, _ => h.elim
 | .p _ _ :: _, _, _, h, _ => h.elim
 | .ps _ _ :: _, _, _, h, _ => h.elim
 | .pr _ _ _ _ :: _, _, _, h, _ => h.elim
 | .pi _ _ _ _ :: _, _, _, h, _ => h.elim
 | .os _ :: _, _, _, h, _ => h.elim
 | .ov _ _ _ _ :: _, _, _, h, _ => h.elim
 | .fn _ _ :: _, _, _, h, _ => h.elim
 | .dead :: _, _, _, h, _ => h.elim
theorem Ayb {l : List SV} {cs : List PV} {n : Nat} (h : Akg l cs) : Imp (.vec n cs) (.agg l) := by
 intro V ρ v hv;simp only [Conc] at hv ⊢;obtain ⟨vs, rfl, _, hp⟩ := hv;exact ⟨vs, rfl, Ts h hp⟩
def Ait (a b : Vc) (k : Nat) : FS := mk [(8, .pv (.i .i64 k)), (7, .vec 8 (vE a)), (4, .pv (.b false)), (3, .p 3 0)] [(3, some (.var (.vec 8 (vE b))))]
theorem Aqp (a b : Vc) {h d} : FunOk Tryz.prog 58 [.vec 8 (vE a), .vec 8 (vE b)] h d (.pv (.b (decide (Mz a b)))) [] := by
 refine Al Af fn58 (by simp) rfl rfl fun F => ?_;simp (disch := omega) only [ir58, go_sem];refine A0 Af (Ait a b) (fun k => k ≤ 8 ∧ ∀ i, i < k → a i ≤ b i) (fun k => 8 - k) 0 (by simp) (Ah ?_ ?_) fun k hk => ?_
 · simp (disch := omega) only [go_sem]
 · simp (disch := omega) only [go_sem]
 obtain ⟨hk, hle⟩ := hk;by_cases hlt : k < 8
 · by_cases hc : a k ≤ b k
   · simp (disch := omega) only [Ait, go_sem];refine Ad (k + 1) _ _ rfl ⟨by omega, fun i hi => ?_⟩ (by omega) ?_ ?_
     · by_cases e : i = k
       · subst e; exact hc
       · exact hle i (by omega)
     · simp (disch := omega) only [go_sem]
     · simp (disch := omega) only [go_sem]
   · have hn : ¬ Mz a b := fun h => hc (h k hlt);simp (disch := omega) only [Ait, hn, go_sem]
 · have hn : Mz a b := fun i hi => hle i (by omega);simp (disch := omega) only [Ait, hn, go_sem]
theorem U5 (g : SlI) (h : g.ok) : Imp (.pv g.pv) (.pv (.sl g.f 2 (g.l.map Ed))) := Tf (Hj id (h.imp (fun e => by rw [e]; rfl) id) (.refl _))
def Sc (r : Int) (q : Nat) (s : List UInt8) : Ver := ⟨r, q, s, fun _ => 0⟩
theorem Aij (r : Int) (q : Nat) (s : List UInt8) : Imp (.agg [.vec 2 [.i .i64 r, .i .u32 q], .pv (.s s), .vec 8 (vE fun _ => 0)]) (.vec 11 (Bf (Sc r q s))) := Gy (by rfl) (Hh _)
theorem Axa {l : List Ver} {g : SlI} {r : Int} {q : Nat} {s : List UInt8} {h d} (hg : g.ok) (hs : Cu l) (hn : l.length ≤ 900) (hbn : g.l.length ≤ 900) (hm : ¬ Di l g.l) (ho : Bp l r q = none) :
 FunOk Tryz.prog 141 [.pv (.sl false 11 (l.map Bf)), .pv g.pv, .agg [.vec 2 [.i .i64 r, .i .u32 q], .pv (.s s), .vec 8 (vE fun _ => 0)]] h d (.tup [.pv (.sl false 11 ((Fk l g.l (Sc r q s)).map Bf)), .pv (.i .i64 0)]) [] := by
 refine FunOk.imp (args' := [.pv (.sl false 11 (l.map Bf)), .pv (.sl g.f 2 (g.l.map Ed)), .vec 11 (Bf (Sc r q s))]) ?_ ⟨Imp.refl _, U5 g hg, Aij r q s, trivial⟩ (by simp [A3, tn]);refine Tl Af fn141 (by simp) rfl rfl fun F => ?_;exact Akf hs hn hbn (fun h => absurd h hm) (fun _ h => by
  have ho' : Bp l (Sc r q s).rep (Sc r q s).seq = none := ho;rw [ho'] at h; cases h) (fun _ _ g n hg => .inl ⟨n, rfl, hg⟩)
theorem Ad3 {l : List Ver} {g : SlI} {r : Int} {q : Nat} {s : List UInt8} {h d} (hg : g.ok) (hs : Cu l) (hn : l.length ≤ 900) (hbn : g.l.length ≤ 900) (hm : Di l g.l) :
 FunOk Tryz.prog 141 [.pv (.sl false 11 (l.map Bf)), .pv g.pv, .agg [.vec 2 [.i .i64 r, .i .u32 q], .pv (.s s), .vec 8 (vE fun _ => 0)]] h d (.tup [.pv (.sl true 0 []), .pv (.i .i64 2)]) [] := by
 refine FunOk.imp (args' := [.pv (.sl false 11 (l.map Bf)), .pv (.sl g.f 2 (g.l.map Ed)), .vec 11 (Bf (Sc r q s))]) ?_ ⟨Imp.refl _, U5 g hg, Aij r q s, trivial⟩ (by simp [A3, tn]);exact Agu rfl rfl hs hn hbn hm
def Em (e : Evt) : Bn := match e.base.l with
 | [] => (0, 0)
 | b :: _ => b
def Fe (l : List Ver) (e : Evt) : List UInt8 :=
 if e.kind = 5 then e.data
 else if e.kind = 4 then O5 (D0 l (Em e).1 (Em e).2).1 e.off.toNat
 else I2 (D0 l (Em e).1 (Em e).2).1 e.off.toNat e.data
structure FitsW (l : List Ver) (e : Evt) : Prop where
 k : e.kind = 3 ∨ e.kind = 4 ∨ e.kind = 5
 off : e.kind ≠ 5 → 0 ≤ e.off ∧ e.off ≤ 200
 len : e.kind = 3 → e.off + e.data.length ≤ 200
 data : ∀ v ∈ l, v.data.length ≤ 200
theorem Z2 {l : List Ver} (h : ∀ v ∈ l, v.data.length ≤ 200) (r : Int) (q : Nat) : (D0 l r q).1.length ≤ 200 := by
 unfold D0;split
 · simp
 · split
   · rename_i v hv; exact h v (Zy hv).1
   · simp
theorem Z3 (l : List Ver) (r : Int) (q : Nat) : (D0 l r q).2 = 0 ∨ (D0 l r q).2 = 2 := by
 unfold D0;split
 · exact .inl rfl
 · split
   · exact .inl rfl
   · exact .inr rfl
set_option maxHeartbeats 2000000 in
theorem Aje {l : List Ver} {e : Evt} (he : ev e) (hf : FitsW l e) (hs : Cu l) (hn : l.length ≤ 900) {h d} :
 FunOk Tryz.prog 140 [.pv (.sl false 11 (l.map Bf)), .vec 21 (Bc e)] h d (if e.kind = 5 ∨ (D0 l (Em e).1 (Em e).2).2 = 0 then .tup [.pv (.s (Fe l e)), .pv (.i .i64 0)] else .tup [.pv (.s []), .pv (.i .i64 2)]) [] := by
 refine Al Af fn140 (by simp) rfl (by split <;> rfl) fun F => ?_;by_cases h5 : e.kind = 5
 · rw [if_pos (.inl h5)];have hb : Fe l e = e.data := if_pos h5;simp (disch := omega) only [ir140, Ag, h5, Hk, hb, go_sem]
 · have hz : (if e.kind = 5 ∨ (D0 l (Em e).1 (Em e).2).2 = 0 then (SV.tup [.pv (.s (Fe l e)), .pv (.i .i64 0)]) else .tup [.pv (.s []), .pv (.i .i64 2)]) = if (D0 l (Em e).1 (Em e).2).2 = 0 then (SV.tup [.pv (.s (Fe l e)), .pv (.i .i64 0)]) else .tup [.pv (.s []), .pv (.i .i64 2)] := by
    by_cases hd : (D0 l (Em e).1 (Em e).2).2 = 0
    · rw [if_pos (.inr hd), if_pos hd]
    · rw [if_neg (fun q => q.elim h5 hd), if_neg hd]
   rw [hz];have hoff := hf.off h5;have hdl := Z2 hf.data (Em e).1 (Em e).2;have hpv : e.base.pv = .sl e.base.f e.base.z (e.base.l.map Ed) := rfl;cases hbl : e.base.l with
   | nil =>
     obtain ⟨b, hb⟩ : ∃ b : Bn, b = (0, 0) := ⟨_, rfl⟩
     have hbi : Em e = b := by unfold Em; rw [hbl, hb]
     simp (disch := omega) only [ir140, Ag, h5, Fh, hpv, hbl, List.map_nil, go_sem];rw [hbi] at hdl ⊢;have hde := Z3 l b.1 b.2;have hbv : Fe l e = if e.kind = 4 then O5 (D0 l b.1 b.2).1 e.off.toNat else I2 (D0 l b.1 b.2).1 e.off.toNat e.data := by unfold Fe; rw [if_neg h5, hbi]
     refine Aa (FunOk.imp (Aq3 (l := l) b.1 b.2 rfl rfl hs (by omega)) ⟨Imp.refl _, by subst hb; exact Gy (by rfl) rfl, trivial⟩ (by simp [A3, tn])) ?_;generalize D0 l b.1 b.2 = w at *;by_cases hw : w.2 = 0
     · rw [if_pos hw];by_cases h4 : e.kind = 4
       · rw [if_pos h4] at hbv;have hc := Lj (data := w.1) (n := e.off) (by omega);simp (disch := omega) only [hw, Ag, h4, Jg, go_sem];refine Aa (A0k w.1 e.off (by omega)) ?_;simp (disch := omega) only [hc, hbv, go_sem]
       · rw [if_neg h4] at hbv;have h3 : e.kind = 3 := by have := hf.k; omega
         have hl := hf.len h3;have hc := Jn (data := w.1) (off := e.off) (s := e.data) (by unfold D9; omega);simp (disch := omega) only [hw, Ag, h4, Jg, Hk, go_sem];refine Aa (Ai8 w.1 e.data e.off) ?_;simp (disch := omega) only [hc, hbv, go_sem]
     · rw [if_neg hw];have hw2 := hde.resolve_left hw;simp (disch := omega) only [hw2, go_sem]
   | cons b t =>
     have hbi : Em e = b := by unfold Em; rw [hbl]
     have hok : e.base.z = 2 := he.2.1.resolve_left (by rw [hbl]; simp);have h0 : (List.map Ed (b :: t))[0]? = some (Ed b) := rfl;have hpos : (0 : Int) < ((t.length : Int) + 1) := by omega
     simp (disch := omega) only [ir140, Ag, h5, Fh, hpv, hbl, hok, List.length_map, h0, Ek, go_sem];rw [hbi] at hdl ⊢;have hde := Z3 l b.1 b.2;have hbv : Fe l e = if e.kind = 4 then O5 (D0 l b.1 b.2).1 e.off.toNat else I2 (D0 l b.1 b.2).1 e.off.toNat e.data := by unfold Fe; rw [if_neg h5, hbi]
     refine Aa (FunOk.imp (Aq3 (l := l) b.1 b.2 rfl rfl hs (by omega)) ⟨Imp.refl _, Imp.refl _, trivial⟩ (by simp [A3, tn])) ?_;generalize D0 l b.1 b.2 = w at *;by_cases hw : w.2 = 0
     · rw [if_pos hw];by_cases h4 : e.kind = 4
       · rw [if_pos h4] at hbv;have hc := Lj (data := w.1) (n := e.off) (by omega);simp (disch := omega) only [hw, Ag, h4, Jg, go_sem];refine Aa (A0k w.1 e.off (by omega)) ?_;simp (disch := omega) only [hc, hbv, go_sem]
       · rw [if_neg h4] at hbv;have h3 : e.kind = 3 := by have := hf.k; omega
         have hl := hf.len h3;have hc := Jn (data := w.1) (off := e.off) (s := e.data) (by unfold D9; omega);simp (disch := omega) only [hw, Ag, h4, Jg, Hk, go_sem];refine Aa (Ai8 w.1 e.data e.off) ?_;simp (disch := omega) only [hc, hbv, go_sem]
     · rw [if_neg hw];have hw2 := hde.resolve_left hw;simp (disch := omega) only [hw2, go_sem]
abbrev Ak (e : Evt) : Bn := (e.rep, e.seq)
abbrev Ay (e : Evt) : Bn := (e.orep, e.oseq)
abbrev Ho (e : Evt) : Bn := (e.drep, e.dseq)
theorem Zq {l : List Obj} (hs : En l) {i : Bn} {o : Obj} (h : l[Bt l i]? = some o) (ho : o.id = i) : isO l i = true := by
 rw [Q9 hs, h]; simp [ho]
theorem Atx {l : List Ver} {e : Evt} (h : ¬ Di l e.base.l) : (D0 l (Em e).1 (Em e).2).2 = 0 := by
 have key : ∀ b : Bn, (b = (0, 0) ∨ b ∈ e.base.l) → (D0 l b.1 b.2).2 = 0 := fun b hb => by
  by_cases hz : b.1 = 0 ∧ b.2 = 0
  · rw [Rt hz]
  · cases hv : Bp l b.1 b.2 with
    | some v => rw [Mh hz hv]
    | none =>
      rcases hb with rfl | hb
      · exact absurd ⟨rfl, rfl⟩ hz
      · exact absurd ⟨b, hb, hv⟩ h
 refine key _ ?_;unfold Em;cases e.base.l with
 | nil => exact .inl rfl
 | cons b t => exact .inr List.mem_cons_self
structure StOk (s : St) : Prop where
 fine : Fine s
 so : En s.objs
 se : Ds s.ents
structure VerOk (o : Obj) (e : Evt) : Prop where
 sv : Cu o.vers
 fw : FitsW o.vers e
 new : Bp o.vers e.rep e.seq = none
 bl : e.base.l.length ≤ 900
theorem Ch {rs : List Rv} {R : SV → FS → Prop} {s : FS} (h : Lz s rs fun l => R (one l) s) : Yn rs R s := ⟨s, .same s, h⟩
theorem Rh {l : List Obj} {k : Nat} {o : Obj} (h : l[k]? = some o) : (l.map Aq).getD k [] = Aq o := by
 rw [List.getD_eq_getElem?_getD, List.getElem?_map, h]; rfl
def wrO (s : St) (e : Evt) (o : Obj) : List Obj := s.objs.set (Bt s.objs (Ay e)) { o with vers := Fk o.vers e.base.l (Sc e.rep e.seq (Fe o.vers e)) }
def Jl (s : St) : SV := .agg (A6 s (.os 38) (Fb s))
theorem D3 (s : St) : ∀ n ∈ tn (Jl s), n = 6 ∨ n = 38 := fun n hn => by
 simp [Jl, A6, Fb, tn, A3] at hn; exact .inr hn
set_option maxHeartbeats 4000000 in
theorem A6z {s : St} {e : Evt} {o : Obj} (hs : StOk s) (he : ev e) (ho : s.objs[Bt s.objs (Ay e)]? = some o) (hid : o.id = Ay e) (hd : o.dir = false) (hv : VerOk o e) (hm : ¬ Di o.vers e.base.l) {h d}
 (hg : h 6 = some (.var (Jl s))) (h38 : h 38 = some (.row 15 (s.objs.map Aq))) :
 DeepOk Tryz.prog 106 [.p 6 0, .vec 21 (Bc e)] h d (.pv (.i .i64 0)) [.new 38 (.row 15 ((wrO s e o).map Aq)), .upd 6 (.var (Jl s))] := by
 refine Ev Af fn106 (by simp) hg h38 (by decide) rfl (D3 s) fun F => ?_;have hk := hv.fw.k;have n8 : ¬ e.kind = 8 := by omega
 have n9 : ¬ e.kind = 9 := by omega
 have n1 : ¬ e.kind = 1 := by omega
 have n2 : ¬ e.kind = 2 := by omega
 have n6 : ¬ e.kind = 6 := by omega
 have n7 : ¬ e.kind = 7 := by omega
 have hi := Zq hs.so ho hid;have hlt := (List.getElem?_eq_some_iff.1 ho).1;have hel : (s.objs.map Aq)[Bt s.objs (Ay e)]? = some (Aq o) := by rw [List.getElem?_map, ho]; rfl
 have hgd := Rh ho;have a1 := hs.fine.on;have a2 := hs.fine.ov o (List.mem_of_getElem? ho);have hb := Aje he hv.fw hv.sv (by omega) (h := fun _ => none) (d := 0);rw [if_pos (.inr (Atx hm))] at hb;simp (disch := omega) only [ir106, Jl, A6, Fb, Ag, n8, n9, n1, n2, A7, go_sem];refine Aa (Ni (l := s.objs) (Ay e) rfl rfl hs.so (by omega)) ?_;simp (disch := omega) only [hi, List.length_map, n6, n7, Ag, hel, Fc, hd, Fv, Bh, go_sem];refine Aa (hb.at (by simp [A3, tn])) ?_;simp (disch := omega) only [hel, Fv, Fh, Aw, go_sem];have hpv : e.base.pv = .sl e.base.f e.base.z (e.base.l.map Ed) := rfl;have hA := Axa (g := e.base) (r := e.rep) (q := e.seq) (s := Fe o.vers e) he.2.1 hv.sv (by omega) hv.bl hm hv.new (h := fun _ => none) (d := 0);refine Aa (hA.at (by simp [A3, tn, hpv])) ?_;have hsp := Ac9 o false 11 (Fk o.vers e.base.l (Sc e.rep e.seq (Fe o.vers e)));have hset : (s.objs.map Aq).set (Bt s.objs (Ay e)) (Fu false 11 { o with vers := Fk o.vers e.base.l (Sc e.rep e.seq (Fe o.vers e)) }) = (wrO s e o).map Aq := by
  unfold wrO; rw [List.map_set]; rfl
 simp (disch := omega) only [hgd, hsp, List.length_map, hset, go_sem];refine Ch ?_;simp (disch := omega) only [go_sem]
def Aah (s : St) (e : Evt) (n : Int) : Prop := ∀ (h : Nat → Option Blk) (d : Nat), h 6 = some (.var (Jl s)) → h 38 = some (.row 15 (s.objs.map Aq)) → ∃ r X, DeepOk Tryz.prog 106 [.p 6 0, .vec 21 (Bc e)] h d (.pv (.i .i64 n)) [.new 38 (.row 15 r), .upd 6 (.var X)]
set_option maxHeartbeats 4000000 in
theorem Ags {s : St} {e : Evt} {o : Obj} (hs : StOk s) (he : ev e) (ho : s.objs[Bt s.objs (Ay e)]? = some o) (hid : o.id = Ay e) (hd : o.dir = false) (hv : VerOk o e) (hm : Di o.vers e.base.l) : Aah s e 2 := by
 intro h d hg h38;have hk := hv.fw.k;have n8 : ¬ e.kind = 8 := by omega
 have n9 : ¬ e.kind = 9 := by omega
 have n1 : ¬ e.kind = 1 := by omega
 have n2 : ¬ e.kind = 2 := by omega
 have n6 : ¬ e.kind = 6 := by omega
 have n7 : ¬ e.kind = 7 := by omega
 have hi := Zq hs.so ho hid;have hlt := (List.getElem?_eq_some_iff.1 ho).1;have hel : (s.objs.map Aq)[Bt s.objs (Ay e)]? = some (Aq o) := by rw [List.getElem?_map, ho]; rfl
 have hgd := Rh ho;have a1 := hs.fine.on;have a2 := hs.fine.ov o (List.mem_of_getElem? ho);have hb := Aje he hv.fw hv.sv (by omega) (h := fun _ => none) (d := 0);by_cases hq : e.kind = 5 ∨ (D0 o.vers (Em e).1 (Em e).2).2 = 0
 · rw [if_pos hq] at hb;refine ⟨(s.objs.map Aq).set (Bt s.objs (Ay e)) (splice (Aq o) 14 [.sl true 0 []]), Jl s, Ev Af fn106 (by simp) hg h38 (by decide) rfl (D3 s) fun F => ?_⟩;simp (disch := omega) only [ir106, Jl, A6, Fb, Ag, n8, n9, n1, n2, A7, go_sem];refine Aa (Ni (l := s.objs) (Ay e) rfl rfl hs.so (by omega)) ?_;simp (disch := omega) only [hi, List.length_map, n6, n7, Ag, hel, Fc, hd, Fv, Bh, go_sem];refine Aa (hb.at (by simp [A3, tn])) ?_;simp (disch := omega) only [hel, Fv, Fh, Aw, go_sem];have hpv : e.base.pv = .sl e.base.f e.base.z (e.base.l.map Ed) := rfl;have hA := Ad3 (g := e.base) (r := e.rep) (q := e.seq) (s := Fe o.vers e) he.2.1 hv.sv (by omega) hv.bl hm (h := fun _ => none) (d := 0);refine Aa (hA.at (by simp [A3, tn, hpv])) ?_;simp (disch := omega) only [hgd, List.length_map, go_sem];refine Ch ?_;simp (disch := omega) only [go_sem]
 · rw [if_neg hq] at hb;refine ⟨s.objs.map Aq, Jl s, Ev Af fn106 (by simp) hg h38 (by decide) rfl (D3 s) fun F => ?_⟩;simp (disch := omega) only [ir106, Jl, A6, Fb, Ag, n8, n9, n1, n2, A7, go_sem];refine Aa (Ni (l := s.objs) (Ay e) rfl rfl hs.so (by omega)) ?_;simp (disch := omega) only [hi, List.length_map, n6, n7, Ag, hel, Fc, hd, Fv, Bh, go_sem];refine Aa (hb.at (by simp [A3, tn])) ?_;simp (disch := omega) only [go_sem];refine Ch ?_;simp (disch := omega) only [go_sem]
theorem Aqy {s : St} {e : Evt} {o : Obj} (hs : StOk s) (hk : e.kind = 3 ∨ e.kind = 4 ∨ e.kind = 5) (ho : s.objs[Bt s.objs (Ay e)]? = some o) (hid : o.id = Ay e) (hd : o.dir = true) : Aah s e 23 := by
 intro h d hg h38;have n8 : ¬ e.kind = 8 := by omega
 have n9 : ¬ e.kind = 9 := by omega
 have n1 : ¬ e.kind = 1 := by omega
 have n2 : ¬ e.kind = 2 := by omega
 have n6 : ¬ e.kind = 6 := by omega
 have n7 : ¬ e.kind = 7 := by omega
 have hi := Zq hs.so ho hid;have hlt := (List.getElem?_eq_some_iff.1 ho).1;have hel : (s.objs.map Aq)[Bt s.objs (Ay e)]? = some (Aq o) := by rw [List.getElem?_map, ho]; rfl
 have a1 := hs.fine.on;refine ⟨s.objs.map Aq, Jl s, Ev Af fn106 (by simp) hg h38 (by decide) rfl (D3 s) fun F => ?_⟩;simp (disch := omega) only [ir106, Jl, A6, Fb, Ag, n8, n9, n1, n2, A7, go_sem];refine Aa (Ni (l := s.objs) (Ay e) rfl rfl hs.so (by omega)) ?_;simp (disch := omega) only [hi, List.length_map, n6, n7, Ag, hel, Fc, hd, Fv, Bh, go_sem];refine Ch ?_;simp (disch := omega) only [go_sem]
theorem Alp {s : St} {e : Evt} (hs : StOk s) (hk : e.kind = 3 ∨ e.kind = 4 ∨ e.kind = 5 ∨ e.kind = 6 ∨ e.kind = 7) (hi : isO s.objs (Ay e) = false) : Aah s e 2 := by
 intro h d hg h38;have n8 : ¬ e.kind = 8 := by omega
 have n9 : ¬ e.kind = 9 := by omega
 have n1 : ¬ e.kind = 1 := by omega
 have n2 : ¬ e.kind = 2 := by omega
 have a1 := hs.fine.on;refine ⟨s.objs.map Aq, Jl s, Ev Af fn106 (by simp) hg h38 (by decide) rfl (D3 s) fun F => ?_⟩;simp (disch := omega) only [ir106, Jl, A6, Fb, Ag, n8, n9, n1, n2, A7, go_sem];refine Aa (Ni (l := s.objs) (Ay e) rfl rfl hs.so (by omega)) ?_;simp (disch := omega) only [hi, go_sem];refine Ch ?_;simp (disch := omega) only [go_sem]
theorem Ng {s : St} (i : Bn) {h d} (hs : En s.objs) (hn : s.objs.length ≤ 1000) (h38 : h 38 = some (.row 15 (s.objs.map Aq))) :
 FunOk Tryz.prog 135 [.agg [.vec 8 (vE s.known), .os 38, .pv (.sl false 15 (s.ents.map Bq)), .vec 8 (iE s.wards), .vec 8 (wE s.ret)], .vec 2 [.i .i64 i.1, .i .u32 i.2]] h d (.pv (.i .i64 (Ky s.objs i))) [] :=
 FunOk.lend (n := 38) (h' := h) (d' := d) h38 (by simp [A3, tn]) (by simp [A3, tn, SV.frz, SV.frzL]) rfl (Aqv (s := s) i hs hn)
def Xb (e : Evt) : Obj := ⟨Ak e, decide (e.kind = 2), Ak e, e.name, fun _ => 0, []⟩
def Gj (e : Evt) (obj : Bn) : Ent := ⟨Ak e, Ho e, e.name, obj, fun _ => 0⟩
theorem Ay4 (e : Evt) (obj : Bn) : Imp (.agg [.vec 2 [.i .i64 e.rep, .i .u32 e.seq], .vec 2 [.i .i64 e.drep, .i .u32 e.dseq], .pv (.s e.name), .vec 2 [.i .i64 obj.1, .i .u32 obj.2], .vec 8 (vE fun _ => 0)]) (.vec 15 (Bq (Gj e obj))) := Gy (by rfl) (Dr _)
theorem Abm {l : List Ent} (e : Evt) (obj : Bn) {h d} (hs : Ds l) (hn : l.length ≤ 1000) :
 FunOk Tryz.prog 138 [.pv (.sl false 15 (l.map Bq)), .agg [.vec 2 [.i .i64 e.rep, .i .u32 e.seq], .vec 2 [.i .i64 e.drep, .i .u32 e.dseq], .pv (.s e.name), .vec 2 [.i .i64 obj.1, .i .u32 obj.2], .vec 8 (vE fun _ => 0)]] h d (.os d) [.new d (.row 15 ((R1 l (Gj e obj)).map Bq))] :=
 FunOk.imp (A20 (l := l) (Gj e obj) rfl rfl hs hn) ⟨Imp.refl _, Ay4 e obj, trivial⟩ (by simp [A3, tn])
set_option maxHeartbeats 4000000 in
theorem Alr {s : St} {e : Evt} (hs : StOk s) (hk : e.kind = 1 ∨ e.kind = 2) (hd : Ky s.objs (Ho e) ≠ 0) : Aah s e (Ky s.objs (Ho e)) := by
 intro h d hg h38;have n8 : ¬ e.kind = 8 := by omega
 have n9 : ¬ e.kind = 9 := by omega
 have a1 := hs.fine.on;refine ⟨s.objs.map Aq, Jl s, Ev Af fn106 (by simp) hg h38 (by decide) rfl (D3 s) fun F => ?_⟩;rcases hk with hk | hk
 all_goals
  simp (disch := omega) only [ir106, Jl, A6, Fb, Ag, n8, n9, hk, Dj, go_sem];refine Aa (Ng (s := s) (Ho e) hs.so (by omega) rfl) ?_;simp (disch := omega) only [hd, go_sem];refine Ch ?_;simp (disch := omega) only [go_sem]
def mkS (s : St) (e : Evt) : St := { s with objs := s.objs.take (Bt s.objs (Ak e)) ++ Xb e :: s.objs.drop (Bt s.objs (Ak e)), ents := R1 s.ents (Gj e (Ak e)) }
set_option maxHeartbeats 4000000 in
theorem A60 {s : St} {e : Evt} (hs : StOk s) (hk : e.kind = 1 ∨ e.kind = 2) (hd : Ky s.objs (Ho e) = 0) {h d}
 (hg : h 6 = some (.var (Jl s))) (h38 : h 38 = some (.row 15 (s.objs.map Aq))) :
 DeepOk Tryz.prog 106 [.p 6 0, .vec 21 (Bc e)] h d (.pv (.i .i64 0)) [.new 38 (.row 15 ((s.objs.map Aq).take (Bt s.objs (Ak e)) ++ Fu true 0 (Xb e) :: (s.objs.map Aq).drop (Bt s.objs (Ak e)))), .upd 6 (.var (Jl (mkS s e)))] := by
 have n8 : ¬ e.kind = 8 := by omega
 have n9 : ¬ e.kind = 9 := by omega
 have a1 := hs.fine.on;have a3 := hs.fine.en;refine Ev Af fn106 (by simp) hg h38 (by decide) rfl (D3 _) fun F => ?_;rcases hk with hk | hk
 · skip
   simp (disch := omega) only [ir106, Jl, A6, Fb, Ag, n8, n9, hk, Dj, go_sem];refine Aa (Ng (s := s) (Ho e) hs.so (by omega) rfl) ?_;simp (disch := omega) only [hd, Aw, go_sem];refine Aa (Ni (l := s.objs) (Ak e) rfl rfl hs.so (by omega)) ?_;have hN : ∀ b, b = decide (e.kind = 2) → (PV.i .i64 e.rep :: .i .u32 e.seq :: .b b :: .i .i64 e.rep :: .i .u32 e.seq :: .s e.name :: ((vE fun _ => 0) ++ [.sl true 0 []])) = Fu true 0 (Xb e) := fun b hb => by subst hb; rfl
   have hN := hN false (by simp [hk]);have hl9 : ((vE fun _ => 0) ++ [PV.sl true 0 []]).length = 9 := by simp [Bl]
   simp (disch := omega) only [Aw, Ag, hk, Du, hN, hl9, Es, go_sem];have hp := L0 s.objs (Ak e);refine Aa (Aqt (m := 38) (n := 75) (s.objs.map Aq) (Fu true 0 (Xb e)) (Bt s.objs (Ak e)) (by simpa using hp) (by simp; omega) (Zh _) (Es _ _ _) (by decide) (by decide) (by decide) (by decide) rfl rfl) ?_;simp (disch := omega) only [Aw, Dj, Du, go_sem];refine Aa (Abm (l := s.ents) e (Ak e) hs.se (by omega)) ?_;simp (disch := omega) only [go_sem];refine ⟨_, D7 93 rfl (D6 76 38 (by decide) rfl (.same _)), ?_⟩
   (try simp only [Cf, Ce, Cd, Cc, Cb, Ca, B9, B0]); simp (disch := omega) only [mkS, go_sem]
 · skip
   simp (disch := omega) only [ir106, Jl, A6, Fb, Ag, n8, n9, hk, Dj, go_sem];refine Aa (Ng (s := s) (Ho e) hs.so (by omega) rfl) ?_;simp (disch := omega) only [hd, Aw, go_sem];refine Aa (Ni (l := s.objs) (Ak e) rfl rfl hs.so (by omega)) ?_;have hN : ∀ b, b = decide (e.kind = 2) → (PV.i .i64 e.rep :: .i .u32 e.seq :: .b b :: .i .i64 e.rep :: .i .u32 e.seq :: .s e.name :: ((vE fun _ => 0) ++ [.sl true 0 []])) = Fu true 0 (Xb e) := fun b hb => by subst hb; rfl
   have hN := hN true (by simp [hk]);have hl9 : ((vE fun _ => 0) ++ [PV.sl true 0 []]).length = 9 := by simp [Bl]
   simp (disch := omega) only [Aw, Ag, hk, Du, hN, hl9, Es, go_sem];have hp := L0 s.objs (Ak e);refine Aa (Aqt (m := 38) (n := 75) (s.objs.map Aq) (Fu true 0 (Xb e)) (Bt s.objs (Ak e)) (by simpa using hp) (by simp; omega) (Zh _) (Es _ _ _) (by decide) (by decide) (by decide) (by decide) rfl rfl) ?_;simp (disch := omega) only [Aw, Dj, Du, go_sem];refine Aa (Abm (l := s.ents) e (Ak e) hs.se (by omega)) ?_;simp (disch := omega) only [go_sem];refine ⟨_, D7 93 rfl (D6 76 38 (by decide) rfl (.same _)), ?_⟩
   (try simp only [Cf, Ce, Cd, Cc, Cb, Ca, B9, B0]); simp (disch := omega) only [mkS, go_sem]
def Ii (s : St) (e : Evt) : St := { s with wards := D4 s.wards (e.rep - 1).toNat e.ward }
def Oz (s : St) (e : Evt) : St := { s with ret := D4 s.ret (e.rep - 1).toNat true }
theorem Wi (s : St) {k : Nat} (hk : k < 8) (n : Int) (a b : PV) : splice (vE s.known ++ a :: b :: (iE s.wards ++ wE s.ret)) (10 + k) [.i .i64 n] = vE s.known ++ a :: b :: (iE (D4 s.wards k n) ++ wE s.ret) := by
 rw [← Y3 hk];simp only [splice, vE, iE, wE, Cj];have hk2 : k = 0 ∨ k = 1 ∨ k = 2 ∨ k = 3 ∨ k = 4 ∨ k = 5 ∨ k = 6 ∨ k = 7 := by omega
 rcases hk2 with rfl | rfl | rfl | rfl | rfl | rfl | rfl | rfl <;> rfl
theorem Aa2 (s : St) {k : Nat} (hk : k < 8) (n : Bool) (a b : PV) : splice (vE s.known ++ a :: b :: (iE s.wards ++ wE s.ret)) (18 + k) [.b n] = vE s.known ++ a :: b :: (iE s.wards ++ wE (D4 s.ret k n)) := by
 rw [← Y2 hk];simp only [splice, vE, iE, wE, Cj];have hk2 : k = 0 ∨ k = 1 ∨ k = 2 ∨ k = 3 ∨ k = 4 ∨ k = 5 ∨ k = 6 ∨ k = 7 := by omega
 rcases hk2 with rfl | rfl | rfl | rfl | rfl | rfl | rfl | rfl <;> rfl
theorem Sj (s : St) : Imp (.vec 26 (vE s.known ++ .sl false 15 (s.objs.map Aq) :: .sl false 15 (s.ents.map Bq) :: (iE s.wards ++ wE s.ret))) (.agg (Ba s)) :=
 Ayb ⟨Bl _, _, rfl, _, rfl, _, rfl, Th _, _, rfl, Sb _, [], by simp, rfl⟩
theorem Alq {s : St} {e : Evt} (hk : e.kind = 8) (hr : 1 ≤ e.rep ∧ e.rep ≤ 8) {h d} (hg : h 6 = some (.var (.agg (Ba s)))) :
 FunOk Tryz.prog 106 [.p 6 0, .vec 21 (Bc e)] h d (.pv (.i .i64 0)) [.upd 6 (.var (.agg (Ba (Ii s e))))] := by
 refine Gc (g := 6) Af fn106 (by simp) (by simp [A3, tn]) (by simp [A3, tn]) hg rfl (by simp [Blk.ptr, SV.kill]) rfl (fun _ => rfl) fun F => ?_;obtain ⟨k, hk8, hre⟩ : ∃ k : Nat, k < 8 ∧ e.rep - 1 = k := ⟨(e.rep - 1).toNat, by omega, by omega⟩
 have hS : Ii s e = { s with wards := D4 s.wards k e.ward } := by unfold Ii; rw [hre]; rfl
 have hsp := Wi s hk8 e.ward (.sl false 15 (s.objs.map Aq)) (.sl false 15 (s.ents.map Bq));rw [hS];simp (disch := omega) only [ir106, Ba, A6, Blk.ptr, Ag, hk, Dd, Ve, hre, hsp, go_sem];refine ⟨mk [(4, .pv (.i .i64 0)), (1000000, .p 6 0)] [(6, some (.var (.agg (Ba { s with wards := D4 s.wards k e.ward }))))], Ah ?_ ?_, ?_⟩
 · simp (disch := omega) only [go_sem]
 · simp (disch := omega) only [go_sem];exact ⟨Sj { s with wards := D4 s.wards k e.ward }, rfl⟩
 (try simp only [Cf, Ce, Cd, Cc, Cb, Ca, B9, B0]); simp (disch := omega) only [go_sem]
 exact ⟨6, rfl, rfl⟩
theorem Aq0 {s : St} {e : Evt} (hk : e.kind = 9) (hr : 1 ≤ e.rep ∧ e.rep ≤ 8) {h d} (hg : h 6 = some (.var (.agg (Ba s)))) :
 FunOk Tryz.prog 106 [.p 6 0, .vec 21 (Bc e)] h d (.pv (.i .i64 0)) [.upd 6 (.var (.agg (Ba (Oz s e))))] := by
 refine Gc (g := 6) Af fn106 (by simp) (by simp [A3, tn]) (by simp [A3, tn]) hg rfl (by simp [Blk.ptr, SV.kill]) rfl (fun _ => rfl) fun F => ?_;obtain ⟨k, hk8, hre⟩ : ∃ k : Nat, k < 8 ∧ e.rep - 1 = k := ⟨(e.rep - 1).toNat, by omega, by omega⟩
 have hS : Oz s e = { s with ret := D4 s.ret k true } := by unfold Oz; rw [hre]; rfl
 have hsp := Aa2 s hk8 true (.sl false 15 (s.objs.map Aq)) (.sl false 15 (s.ents.map Bq));rw [hS];simp (disch := omega) only [ir106, Ba, A6, Blk.ptr, Ag, hk, Dd, hre, hsp, go_sem];refine ⟨mk [(4, .pv (.i .i64 0)), (1000000, .p 6 0)] [(6, some (.var (.agg (Ba { s with ret := D4 s.ret k true }))))], Ah ?_ ?_, ?_⟩
 · simp (disch := omega) only [go_sem]
 · simp (disch := omega) only [go_sem];exact ⟨Sj { s with ret := D4 s.ret k true }, rfl⟩
 (try simp only [Cf, Ce, Cd, Cc, Cb, Ca, B9, B0]); simp (disch := omega) only [go_sem]
 exact ⟨6, rfl, rfl⟩
theorem Aiz (s : St) (es : List (List PV)) : Blk.frz 38 (.sl false 15 es) (.var (Jl s)) = .var (.agg (A6 s (.pv (.sl false 15 es)) (Fb s))) := by
 simp [Jl, A6, Fb, Blk.frz, SV.frz, SV.frzL]
theorem Aqz {s : St} {e : Evt} (hk : e.kind = 8) (hr : 1 ≤ e.rep ∧ e.rep ≤ 8) {h d} (hg : h 6 = some (.var (Jl s))) (h38 : h 38 = some (.row 15 (s.objs.map Aq))) :
 DeepOk Tryz.prog 106 [.p 6 0, .vec 21 (Bc e)] h d (.pv (.i .i64 0)) [.frz 38 (.sl false 15 (s.objs.map Aq)), .upd 6 (.var (.agg (Ba (Ii s e))))] :=
 DeepOk.frz (args' := [.p 6 0, .vec 21 (Bc e)]) (h' := fun k => if k = 38 then none else (h k).map (Blk.frz 38 (.sl false 15 (s.objs.map Aq)))) (d' := d) h38 rfl (fun k _ => rfl) (Alq hk hr (by show (h 6).map _ = _; rw [hg, Option.map_some, Aiz]; rfl))
theorem Aw6 {s : St} {e : Evt} (hk : e.kind = 9) (hr : 1 ≤ e.rep ∧ e.rep ≤ 8) {h d} (hg : h 6 = some (.var (Jl s))) (h38 : h 38 = some (.row 15 (s.objs.map Aq))) :
 DeepOk Tryz.prog 106 [.p 6 0, .vec 21 (Bc e)] h d (.pv (.i .i64 0)) [.frz 38 (.sl false 15 (s.objs.map Aq)), .upd 6 (.var (.agg (Ba (Oz s e))))] :=
 DeepOk.frz (args' := [.p 6 0, .vec 21 (Bc e)]) (h' := fun k => if k = 38 then none else (h k).map (Blk.frz 38 (.sl false 15 (s.objs.map Aq)))) (d' := d) h38 rfl (fun k _ => rfl) (Aq0 hk hr (by show (h 6).map _ = _; rw [hg, Option.map_some, Aiz]; rfl))
def Aha (l : List Bn) (i : Bn) : Int := match l.findIdx? (fun x => decide (i = x)) with
 | some k => k
 | none => -1
def Aiu (f : Bool) (l : List Bn) (i : Bn) (k : Nat) : FS := mk [(8, .pv (.i .i64 k)), (7, .pv (.i .i64 l.length)), (0, .pv (.sl f 2 (l.map Ed))), (3, .p 3 0)] [(3, some (.var (.vec 2 [.i .i64 i.1, .i .u32 i.2])))]
set_option maxHeartbeats 1000000 in
theorem Aqu {f : Bool} {l : List Bn} (i : Bn) {h d} (hn : l.length ≤ 1000) : FunOk Tryz.prog 172 [.pv (.sl f 2 (l.map Ed)), .vec 2 [.i .i64 i.1, .i .u32 i.2]] h d (.pv (.i .i64 (Aha l i))) [] := by
 refine Al Af fn172 (by simp) rfl rfl fun F => ?_;simp (disch := omega) only [ir172, List.length_map, go_sem];refine A0 Af (Aiu f l i) (fun k => k ≤ l.length ∧ ∀ j x, j < k → l[j]? = some x → i ≠ x) (fun k => l.length - k) 0 ⟨by simp, fun j x hj => absurd hj (Nat.not_lt_zero j)⟩ (Ah ?_ ?_) fun k hk => ?_
 · simp (disch := omega) only [go_sem]
 · simp (disch := omega) only [go_sem]
 obtain ⟨hk1, hk2⟩ := hk;by_cases hlt : k < l.length
 · have hx : l[k]? = some l[k] := List.getElem?_eq_getElem hlt;have he : (l.map Ed)[k]? = some (Ed l[k]) := by rw [List.getElem?_map, hx]; rfl
   generalize l[k] = b at *;by_cases hb : i = b
   · have hp := Fo hb;have e : Aha l i = k := by
      have : l.findIdx? (fun x => decide (i = x)) = some k := by
       rw [List.findIdx?_eq_some_iff_getElem];refine ⟨hlt, by rw [List.getElem?_eq_getElem hlt] at hx; cases hx; simpa using hb, fun j hj => ?_⟩;have := hk2 j _ hj (List.getElem?_eq_getElem (by omega));simpa using this
      unfold Aha; rw [this]
     simp (disch := omega) only [Aiu, List.length_map, he, Ek, Ae, hp, e, go_sem]
   · have hp := Fp hb;simp (disch := omega) only [Aiu, List.length_map, he, Ek, Ae, hp, go_sem];refine Ad (k + 1) _ _ rfl ⟨by omega, fun j x hj hjx => ?_⟩ (by omega) ?_ ?_
     · by_cases ej : j = k
       · subst ej; rw [hx] at hjx; cases hjx; exact hb
       · exact hk2 j x (by omega) hjx
     · simp (disch := omega) only [go_sem]
     · simp (disch := omega) only [go_sem]
 · obtain rfl : k = l.length := by omega
   have e : Aha l i = -1 := by
    have : l.findIdx? (fun x => decide (i = x)) = none := by
     rw [List.findIdx?_eq_none_iff];intro x hx;obtain ⟨j, hj⟩ := List.mem_iff_getElem?.1 hx;have := hk2 j x (List.getElem?_eq_some_iff.1 hj).1 hj;simpa using this
    unfold Aha; rw [this]
   simp (disch := omega) only [Aiu, e, go_sem]
theorem Asp (l : List Bn) (i : Bn) : decide (0 ≤ Aha l i) = decide (i ∈ l) := by
 unfold Aha;cases h : l.findIdx? (fun x => decide (i = x)) with
 | some k =>
   have := List.findIdx?_eq_some_iff_getElem.1 h;obtain ⟨h1, h2, _⟩ := this;have h3 : i = l[k] := by simpa using h2
   have : i ∈ l := by rw [h3]; exact List.getElem_mem h1
   simp only [this, decide_true, decide_eq_true_eq]; omega
 | none =>
   have h2 := List.findIdx?_eq_none_iff.1 h;have : ¬ i ∈ l := fun hm => by have := h2 i hm; simp at this
   simp only [this, decide_false, decide_eq_false_iff_not]; omega
theorem Ub (g : SlI) (i : Bn) (hg : g.ok) {h d} (hn : g.l.length ≤ 1000) : FunOk Tryz.prog 157 [.pv g.pv, .vec 2 [.i .i64 i.1, .i .u32 i.2]] h d (.pv (.b (decide (i ∈ g.l)))) [] := by
 refine FunOk.imp (args' := [.pv (.sl g.f 2 (g.l.map Ed)), .vec 2 [.i .i64 i.1, .i .u32 i.2]]) ?_ ⟨U5 g hg, Imp.refl _, trivial⟩ (by simp [A3, tn]);refine Al Af fn157 (by simp) rfl rfl fun F => ?_;have e := Asp g.l i;simp (disch := omega) only [ir157, go_sem];refine Aa (Aqu (l := g.l) i hn) ?_;simp (disch := omega) only [e, go_sem]
def Eu (e : Evt) (x : Ent) : Bool := decide (x.obj = Ay e) && decide (x.id ∈ e.gone.l)
def Fj (e : Evt) (l m : List Ent) : List Ent := m.foldl (fun a x => if Eu e x = true then killL a x.id (Ak e) else a) l
theorem Xq (e : Evt) (l m : List Ent) (x : Ent) : Fj e l (m ++ [x]) = if Eu e x = true then killL (Fj e l m) x.id (Ak e) else Fj e l m := by
 simp [Fj, List.foldl_append]
theorem Mb {e : Evt} {l : List Ent} (h : Ds l) : ∀ m : List Ent, Ds (Fj e l m) := fun m => by
 unfold Fj
 induction m generalizing l with
 | nil => exact h
 | cons x m ih =>
   simp only [List.foldl_cons];split
   · exact ih (Ak1 h _ _)
   · exact ih h
theorem Tj {e : Evt} {l : List Ent} : ∀ m : List Ent, (Fj e l m).length = l.length := fun m => by
 unfold Fj
 induction m generalizing l with
 | nil => rfl
 | cons x m ih =>
   simp only [List.foldl_cons];split
   · rw [ih]; exact Axv _ _ _
   · exact ih
def Ac7 (s : St) (e : Evt) (i k : Nat) : FS := mk [(27, .pv (.i .i64 k)), (26, .pv (.i .i64 s.ents.length)), (25, .pv (.sl false 15 (s.ents.map Bq))), (5, .p 5 0), (0, .p 6 0), (1, .pr 38 15 i 0), (1000000, .p 6 0)] [(5, some (.var (.vec 21 (Bc e)))), (6, some (.var (.agg (A6 s (.os 38) (.pv (.sl false 15 ((Fj e s.ents (s.ents.take k)).map Bq))))))), (38, some (.row 15 (s.objs.map Aq)))]
theorem Aps {α : Type} {l : List α} {i : Nat} {x : α} (h : l[i]? = some x) : l.set i x = l := by
 obtain ⟨h1, h2⟩ := List.getElem?_eq_some_iff.1 h;rw [← h2]; exact List.set_getElem_self h1
def Ug (s : St) (e : Evt) (i : Nat) (o : Obj) : St := { s with objs := s.objs.set i { o with seen := Cp o.seen (A8 e.dep e.rep e.seq) }, ents := Fj e s.ents s.ents }
set_option maxHeartbeats 4000000 in
theorem Agn {s : St} {e : Evt} {o : Obj} {i : Nat} (hs : StOk s) (he : ev e) (hk : e.kind = 6) (ho : s.objs[i]? = some o) {h d}
 (hg : h 6 = some (.var (Jl s))) (h38 : h 38 = some (.row 15 (s.objs.map Aq))) :
 DeepOk Tryz.prog 139 [.p 6 0, .pr 38 15 i 0, .vec 21 (Bc e)] h d (.pv (.i .i64 0)) [.new 38 (.row 15 ((Ug s e i o).objs.map Aq)), .upd 6 (.var (Jl (Ug s e i o)))] := by
 refine Ev Af fn139 (by simp) hg h38 (by decide) rfl (D3 _) fun F => ?_;have hil := (List.getElem?_eq_some_iff.1 ho).1;have hel : (s.objs.map Aq)[i]? = some (Aq o) := by rw [List.getElem?_map, ho]; rfl
 have hgd := Rh ho;have a3 := hs.fine.en;simp (disch := omega) only [ir139, Jl, A6, Fb, Ag, hk, List.length_map, go_sem];refine A0 Af (Ac7 s e i) (fun k => k ≤ s.ents.length) (fun k => s.ents.length - k) 0 (by simp) (Ah ?_ ?_) fun k hk => ?_
 · simp (disch := omega) only [go_sem]
 · simp (disch := omega) only [A6, Fj, List.take_zero, List.foldl_nil, go_sem]
 by_cases hlt : k < s.ents.length
 · have hx : s.ents[k]? = some s.ents[k] := List.getElem?_eq_getElem hlt;have hel : (s.ents.map Bq)[k]? = some (Bq s.ents[k]) := by rw [List.getElem?_map, hx]; rfl
   have ht := Cz hx;have hsn := Xq e s.ents (s.ents.take k) s.ents[k];rw [← ht] at hsn;generalize s.ents[k] = x at *;have hel15 := Dr x;have hsoK := Mb (e := e) hs.se (s.ents.take k);have hlK := Tj (e := e) (l := s.ents) (s.ents.take k);by_cases h1 : x.obj = Ay e
   · have hp := Fo h1;have hpv : e.gone.pv = .sl e.gone.f e.gone.z (e.gone.l.map Ed) := rfl;simp (disch := omega) only [Ac7, A6, List.length_map, hel, Fy, hel15, C6, A7, Bo, Ae, hp, Ga, Dk, go_sem];refine Aa (Ub e.gone x.id he.1 he.2.2.1) ?_;by_cases h2 : x.id ∈ e.gone.l
     · have hg : Eu e x = true := by unfold Eu; simp [h1, h2]
       rw [if_pos hg] at hsn;simp (disch := omega) only [h2, Dk, Aw, go_sem];refine Aa (Ajb (l := Fj e s.ents (s.ents.take k)) x.id (Ak e) rfl rfl hsoK (by omega)) ?_;simp (disch := omega) only [go_sem];refine ⟨k + 1, by omega, by omega, D7 52 rfl (Ah ?_ ?_)⟩
       · simp (disch := omega) only [go_sem]
       · simp (disch := omega) only [A6, hsn, go_sem]
     · have hg : ¬ Eu e x = true := by unfold Eu; simp [h2]
       rw [if_neg hg] at hsn;simp (disch := omega) only [h2, go_sem];refine Ad (k + 1) _ _ rfl (by omega) (by omega) ?_ ?_
       · simp (disch := omega) only [go_sem]
       · simp (disch := omega) only [A6, hsn, go_sem]
   · have hp := Fp h1;have hg : ¬ Eu e x = true := by unfold Eu; simp [h1]
     rw [if_neg hg] at hsn;simp (disch := omega) only [Ac7, A6, List.length_map, hel, Fy, hel15, C6, A7, Bo, Ae, hp, Dk, go_sem];refine Ad (k + 1) _ _ rfl (by omega) (by omega) ?_ ?_
     · simp (disch := omega) only [go_sem]
     · simp (disch := omega) only [A6, hsn, go_sem]
 obtain rfl : k = s.ents.length := by omega
 have htk : s.ents.take s.ents.length = s.ents := List.take_length;simp (disch := omega) only [Ac7, A6, htk, Ag, hk, hel, P2, Fa, Aw, go_sem];refine Aa (Abd e.dep e.rep e.seq) ?_;simp (disch := omega) only [go_sem];refine Aa (Aqs o.seen (A8 e.dep e.rep e.seq)) ?_;have hsp := Wf o (Cp o.seen (A8 e.dep e.rep e.seq));have hset : (s.objs.map Aq).set i (Aq { o with seen := Cp o.seen (A8 e.dep e.rep e.seq) }) = (Ug s e i o).objs.map Aq := by
  unfold Ug; rw [List.map_set]
 have hvl := Bl (Cp o.seen (A8 e.dep e.rep e.seq));simp (disch := omega) only [hgd, hsp, List.length_map, hset, go_sem];refine Ch ?_;simp (disch := omega) only [Ug, go_sem]
def Xd (e : Evt) (o : Obj) : Obj := if Cl o.last.1 o.last.2 e.rep e.seq = true then { o with last := Ak e, name := e.name } else o
def Nl (s : St) (e : Evt) (i : Nat) (o : Obj) : St := { s with objs := s.objs.set i (Xd e o), ents := R1 (Fj e s.ents s.ents) (Gj e (Ay e)) }
set_option maxHeartbeats 4000000 in
theorem Agm {s : St} {e : Evt} {o : Obj} {i : Nat} (hs : StOk s) (he : ev e) (hk : e.kind = 7) (hd : Ky s.objs (Ho e) = 0) (ho : s.objs[i]? = some o) {h d}
 (hg : h 6 = some (.var (Jl s))) (h38 : h 38 = some (.row 15 (s.objs.map Aq))) :
 DeepOk Tryz.prog 139 [.p 6 0, .pr 38 15 i 0, .vec 21 (Bc e)] h d (.pv (.i .i64 0)) [.new 38 (.row 15 ((Nl s e i o).objs.map Aq)), .upd 6 (.var (Jl (Nl s e i o)))] := by
 refine Ev Af fn139 (by simp) hg h38 (by decide) rfl (D3 _) fun F => ?_;have hil := (List.getElem?_eq_some_iff.1 ho).1;have hel : (s.objs.map Aq)[i]? = some (Aq o) := by rw [List.getElem?_map, ho]; rfl
 have hgd := Rh ho;have a1 := hs.fine.on;have a3 := hs.fine.en;simp (disch := omega) only [ir139, Jl, A6, Fb, Ag, hk, Dj, go_sem];refine Aa (Ng (s := s) (Ho e) hs.so (by omega) rfl) ?_;simp (disch := omega) only [hd, List.length_map, go_sem];refine A0 Af (Ac7 s e i) (fun k => k ≤ s.ents.length) (fun k => s.ents.length - k) 0 (by simp) (Ah ?_ ?_) fun k hk => ?_
 · simp (disch := omega) only [go_sem]
 · simp (disch := omega) only [A6, Fj, List.take_zero, List.foldl_nil, go_sem]
 by_cases hlt : k < s.ents.length
 · have hx : s.ents[k]? = some s.ents[k] := List.getElem?_eq_getElem hlt;have hel : (s.ents.map Bq)[k]? = some (Bq s.ents[k]) := by rw [List.getElem?_map, hx]; rfl
   have ht := Cz hx;have hsn := Xq e s.ents (s.ents.take k) s.ents[k];rw [← ht] at hsn;generalize s.ents[k] = x at *;have hel15 := Dr x;have hsoK := Mb (e := e) hs.se (s.ents.take k);have hlK := Tj (e := e) (l := s.ents) (s.ents.take k);by_cases h1 : x.obj = Ay e
   · have hp := Fo h1;have hpv : e.gone.pv = .sl e.gone.f e.gone.z (e.gone.l.map Ed) := rfl;simp (disch := omega) only [Ac7, A6, List.length_map, hel, Fy, hel15, C6, A7, Bo, Ae, hp, Ga, Dk, go_sem];refine Aa (Ub e.gone x.id he.1 he.2.2.1) ?_;by_cases h2 : x.id ∈ e.gone.l
     · have hg : Eu e x = true := by unfold Eu; simp [h1, h2]
       rw [if_pos hg] at hsn;simp (disch := omega) only [h2, Dk, Aw, go_sem];refine Aa (Ajb (l := Fj e s.ents (s.ents.take k)) x.id (Ak e) rfl rfl hsoK (by omega)) ?_;simp (disch := omega) only [go_sem];refine ⟨k + 1, by omega, by omega, D7 52 rfl (Ah ?_ ?_)⟩
       · simp (disch := omega) only [go_sem]
       · simp (disch := omega) only [A6, hsn, go_sem]
     · have hg : ¬ Eu e x = true := by unfold Eu; simp [h2]
       rw [if_neg hg] at hsn;simp (disch := omega) only [h2, go_sem];refine Ad (k + 1) _ _ rfl (by omega) (by omega) ?_ ?_
       · simp (disch := omega) only [go_sem]
       · simp (disch := omega) only [A6, hsn, go_sem]
   · have hp := Fp h1;have hg : ¬ Eu e x = true := by unfold Eu; simp [h1]
     rw [if_neg hg] at hsn;simp (disch := omega) only [Ac7, A6, List.length_map, hel, Fy, hel15, C6, A7, Bo, Ae, hp, Dk, go_sem];refine Ad (k + 1) _ _ rfl (by omega) (by omega) ?_ ?_
     · simp (disch := omega) only [go_sem]
     · simp (disch := omega) only [A6, hsn, go_sem]
 obtain rfl : k = s.ents.length := by omega
 have htk : s.ents.take s.ents.length = s.ents := List.take_length;have hsG := Mb (e := e) hs.se s.ents;have hlG := Tj (e := e) (l := s.ents) s.ents;simp (disch := omega) only [Ac7, A6, htk, Ag, hk, Aw, Dj, Du, A7, go_sem];refine Aa (Abm (l := Fj e s.ents s.ents) e (Ay e) hsG (by omega)) ?_;simp (disch := omega) only [hel, J0, Aw, go_sem];refine Aa (Nf o.last.1 o.last.2 e.rep e.seq) ?_;by_cases hl : Cl o.last.1 o.last.2 e.rep e.seq = true
 · have hmo : Xd e o = { o with last := Ak e, name := e.name } := if_pos hl;have hsp := Wh o (Ak e);have hsp2 := Wg { o with last := Ak e } e.name;have hset : ((s.objs.map Aq).set i (Aq { o with last := Ak e })).set i (Aq { o with last := Ak e, name := e.name }) = (Nl s e i o).objs.map Aq := by
    unfold Nl; rw [List.set_set, List.map_set, hmo]
   have hgd2 : ((s.objs.map Aq).set i (Aq { o with last := Ak e })).getD i [] = Aq { o with last := Ak e } := by
    rw [List.getD_eq_getElem?_getD, List.getElem?_set_self (by simpa using hil)]; rfl
   simp (disch := omega) only [hl, go_sem];refine Lm ?_;simp (disch := omega) only [Aw, Du, hgd, hsp, List.length_map, List.length_set, hgd2, hsp2, hset, go_sem];refine ⟨_, D7 86 rfl (.same _), ?_⟩
   (try simp only [Cf, Ce, Cd, Cc, Cb, Ca, B9, B0]); simp (disch := omega) only [Nl, go_sem]
 · have hmo : Xd e o = o := if_neg hl;have hl' : Cl o.last.1 o.last.2 e.rep e.seq = false := by simpa using hl
   have hset : s.objs.map Aq = (Nl s e i o).objs.map Aq := by
    unfold Nl; rw [hmo];show _ = (s.objs.set i o).map Aq;rw [Aps ho]
   simp (disch := omega) only [hl', go_sem];refine ⟨_, D7 86 rfl (.same _), ?_⟩
   (try simp only [Cf, Ce, Cd, Cc, Cb, Ca, B9, B0]); simp (disch := omega) only [Nl, go_sem]
   exact congrArg (fun q => some (Blk.row 15 q)) hset
theorem Agl {s : St} {e : Evt} {i : Nat} (hs : StOk s) (hk : e.kind = 7) (hd : Ky s.objs (Ho e) ≠ 0) {h d}
 (hg : h 6 = some (.var (Jl s))) (h38 : h 38 = some (.row 15 (s.objs.map Aq))) :
 DeepOk Tryz.prog 139 [.p 6 0, .pr 38 15 i 0, .vec 21 (Bc e)] h d (.pv (.i .i64 (Ky s.objs (Ho e)))) [.new 38 (.row 15 (s.objs.map Aq)), .upd 6 (.var (Jl s))] := by
 refine Ev Af fn139 (by simp) hg h38 (by decide) rfl (D3 _) fun F => ?_;have a1 := hs.fine.on;simp (disch := omega) only [ir139, Jl, A6, Fb, Ag, hk, Dj, go_sem];refine Aa (Ng (s := s) (Ho e) hs.so (by omega) rfl) ?_;simp (disch := omega) only [hd, go_sem];refine Ch ?_;simp (disch := omega) only [go_sem]
set_option maxHeartbeats 4000000 in
theorem Aq2 {s : St} {e : Evt} {o : Obj} (hs : StOk s) (he : ev e) (hk : e.kind = 6) (ho : s.objs[Bt s.objs (Ay e)]? = some o) (hid : o.id = Ay e) {h d}
 (hg : h 6 = some (.var (Jl s))) (h38 : h 38 = some (.row 15 (s.objs.map Aq))) :
 DeepOk Tryz.prog 106 [.p 6 0, .vec 21 (Bc e)] h d (.pv (.i .i64 0)) [.new 38 (.row 15 ((Ug s e (Bt s.objs (Ay e)) o).objs.map Aq)), .upd 6 (.var (Jl (Ug s e (Bt s.objs (Ay e)) o)))] := by
 refine Ev Af fn106 (by simp) hg h38 (by decide) rfl (D3 _) fun F => ?_;have n8 : ¬ e.kind = 8 := by omega
 have n9 : ¬ e.kind = 9 := by omega
 have n1 : ¬ e.kind = 1 := by omega
 have n2 : ¬ e.kind = 2 := by omega
 have hi := Zq hs.so ho hid;have hlt := (List.getElem?_eq_some_iff.1 ho).1;have a1 := hs.fine.on;simp (disch := omega) only [ir106, Jl, A6, Fb, Ag, n8, n9, n1, n2, A7, go_sem];refine Aa (Ni (l := s.objs) (Ay e) rfl rfl hs.so (by omega)) ?_;simp (disch := omega) only [hi, List.length_map, hk, Ag, Bh, go_sem];refine H5 (Agn hs he hk ho rfl rfl) ?_;simp (disch := omega) only [Jl, A6, Fb, go_sem];refine Ch ?_;simp (disch := omega) only [go_sem]
set_option maxHeartbeats 4000000 in
theorem Aq1 {s : St} {e : Evt} {o : Obj} (hs : StOk s) (he : ev e) (hk : e.kind = 7) (hd : Ky s.objs (Ho e) = 0) (ho : s.objs[Bt s.objs (Ay e)]? = some o) (hid : o.id = Ay e) {h d}
 (hg : h 6 = some (.var (Jl s))) (h38 : h 38 = some (.row 15 (s.objs.map Aq))) :
 DeepOk Tryz.prog 106 [.p 6 0, .vec 21 (Bc e)] h d (.pv (.i .i64 0)) [.new 38 (.row 15 ((Nl s e (Bt s.objs (Ay e)) o).objs.map Aq)), .upd 6 (.var (Jl (Nl s e (Bt s.objs (Ay e)) o)))] := by
 refine Ev Af fn106 (by simp) hg h38 (by decide) rfl (D3 _) fun F => ?_;have n8 : ¬ e.kind = 8 := by omega
 have n9 : ¬ e.kind = 9 := by omega
 have n1 : ¬ e.kind = 1 := by omega
 have n2 : ¬ e.kind = 2 := by omega
 have hi := Zq hs.so ho hid;have hlt := (List.getElem?_eq_some_iff.1 ho).1;have a1 := hs.fine.on;simp (disch := omega) only [ir106, Jl, A6, Fb, Ag, n8, n9, n1, n2, A7, go_sem];refine Aa (Ni (l := s.objs) (Ay e) rfl rfl hs.so (by omega)) ?_;simp (disch := omega) only [hi, List.length_map, hk, Ag, Bh, go_sem];refine H5 (Agm hs he hk hd ho rfl rfl) ?_;simp (disch := omega) only [Jl, A6, Fb, go_sem];refine Ch ?_;simp (disch := omega) only [go_sem]
set_option maxHeartbeats 4000000 in
theorem Abk {s : St} {e : Evt} {o : Obj} (hs : StOk s) (hk : e.kind = 7) (hd : Ky s.objs (Ho e) ≠ 0) (ho : s.objs[Bt s.objs (Ay e)]? = some o) (hid : o.id = Ay e) : Aah s e (Ky s.objs (Ho e)) := by
 intro h d hg h38;refine ⟨s.objs.map Aq, Jl s, Ev Af fn106 (by simp) hg h38 (by decide) rfl (D3 s) fun F => ?_⟩;have n8 : ¬ e.kind = 8 := by omega
 have n9 : ¬ e.kind = 9 := by omega
 have n1 : ¬ e.kind = 1 := by omega
 have n2 : ¬ e.kind = 2 := by omega
 have hi := Zq hs.so ho hid;have hlt := (List.getElem?_eq_some_iff.1 ho).1;have a1 := hs.fine.on;simp (disch := omega) only [ir106, Jl, A6, Fb, Ag, n8, n9, n1, n2, A7, go_sem];refine Aa (Ni (l := s.objs) (Ay e) rfl rfl hs.so (by omega)) ?_;simp (disch := omega) only [hi, List.length_map, hk, Ag, Bh, go_sem];refine H5 (Agl hs hk hd rfl rfl) ?_;simp (disch := omega) only [Jl, A6, Fb, go_sem];refine Ch ?_;simp (disch := omega) only [go_sem]
end Go.Proofs.YthmjebkldgdeiaaGreat.Fw
namespace Go.Proofs.YthmjebkldgdeiaaGreat.Fw
open Go.RowKit Go.Proofs
def E9 (l : List Obj) (i : Bn) : Option Obj := match l[Bt l i]? with
 | some o => if o.id = i then some o else none
 | none => none
theorem G3 {l : List Obj} {i : Bn} {o : Obj} (h : E9 l i = some o) : l[Bt l i]? = some o ∧ o.id = i := by
 unfold E9 at h;split at h
 · rename_i u hu;split at h
   · rename_i hi; cases h; exact ⟨hu, hi⟩
   · cases h
 · cases h
theorem Amj {l : List Obj} (hs : En l) (i : Bn) : isO l i = (E9 l i).isSome := by
 rw [Q9 hs]; unfold E9;cases l[Bt l i]? with
 | none => rfl
 | some x => simp only; by_cases h : x.id = i <;> simp [h]
theorem Ahp {l : List Obj} (i : Bn) : Ky l i = if i = (0, 0) then 0 else match E9 l i with | some o => if o.dir = true then 0 else 22 | none => 2 := by
 unfold Ky E9;split
 · rfl
 · cases l[Bt l i]? with
   | none => rfl
   | some x => simp only; by_cases h : x.id = i <;> simp [h]
open Classical in
noncomputable def Ur (s : St) (e : Evt) : Int :=
 if e.kind = 8 ∨ e.kind = 9 then 0
 else if e.kind = 1 ∨ e.kind = 2 then Ky s.objs (Ho e)
 else match E9 s.objs (Ay e) with
  | none => 2
  | some o => if e.kind = 7 then Ky s.objs (Ho e) else if e.kind = 6 then 0 else if o.dir = true then 23 else if Di o.vers e.base.l then 2 else 0
def doS (s : St) (e : Evt) : St :=
 if e.kind = 8 then Ii s e
 else if e.kind = 9 then Oz s e
 else if e.kind = 1 ∨ e.kind = 2 then mkS s e
 else match E9 s.objs (Ay e) with
  | none => s
  | some o => if e.kind = 7 then Nl s e (Bt s.objs (Ay e)) o else if e.kind = 6 then Ug s e (Bt s.objs (Ay e)) o else { s with objs := wrO s e o }
noncomputable def Ew (s : St) (e : Evt) : Int :=
 if Bd e = false then 7
 else if Bg s.known e.rep e.seq = true then 11
 else if ¬ Mz e.dep s.known then 10
 else if s.ret (e.rep - 1).toNat = true then 28
 else Ur s e
def Hl (s : St) (e : Evt) : St := { s with known := A8 s.known e.rep e.seq }
def Hs (s : St) (e : Evt) : St := doS (Hl s e) e
structure StIn (s : St) : Prop extends StOk s where
 sv : ∀ o ∈ s.objs, Cu o.vers
 sd : ∀ o ∈ s.objs, ∀ v ∈ o.vers, v.data.length ≤ 200
 sk : ∀ o ∈ s.objs, ∀ v ∈ o.vers, Bg s.known v.rep v.seq = true
theorem Cx {e : Evt} (h : Bd e = true) : Ix e := by
 unfold Bd at h;simp only [Bool.and_eq_true, decide_eq_true_eq] at h;exact h.1
theorem X4 {e : Evt} (h : Bd e = true) (hk : e.kind = 3 ∨ e.kind = 4 ∨ e.kind = 5) {l : List Ver} (hd : ∀ v ∈ l, v.data.length ≤ 200) : FitsW l e := by
 unfold Bd at h;simp only [Bool.and_eq_true, decide_eq_true_eq] at h;have hK := h.2.2.2;refine ⟨hk, fun h5 => ?_, fun h3 => ?_, hd⟩
 · have : e.kind = 3 ∨ e.kind = 4 := by omega
   rcases this with h3 | h4
   · rw [Ki h3] at hK;simp only [Bool.and_eq_true, Cv, decide_eq_true_eq] at hK;exact hK.2.2.1
   · rw [Oo h4] at hK;simp only [Bool.and_eq_true, Cv, decide_eq_true_eq] at hK;exact hK.2.2
 · rw [Ki h3] at hK;simp only [Bool.and_eq_true, Cv, decide_eq_true_eq] at hK;exact hK.2.2.2.2.2.2
theorem Pg {e : Evt} (h : Bd e = true) (hk : e.kind = 3 ∨ e.kind = 4 ∨ e.kind = 5) : e.base.l.length ≤ 8 := by
 unfold Bd at h;simp only [Bool.and_eq_true, decide_eq_true_eq] at h;have hK := h.2.2.2;rcases hk with h3 | h3 | h3
 · rw [Ki h3] at hK;simp only [Bool.and_eq_true, Ef, decide_eq_true_eq] at hK;have := hK.2.1.1; omega
 · rw [Oo h3] at hK;simp only [Bool.and_eq_true, Ef, decide_eq_true_eq] at hK;have := hK.2.1.1; omega
 · rw [Om h3] at hK;simp only [Bool.and_eq_true, Ef, decide_eq_true_eq] at hK;have := hK.2.1.1; omega
structure DoIn (s : St) (e : Evt) : Prop where
 ok : StOk s
 ev : ev e
 ck : Bd e = true
 vo : e.kind = 3 ∨ e.kind = 4 ∨ e.kind = 5 → ∀ o ∈ s.objs, VerOk o e
theorem A88 {s : St} {e : Evt} (hi : DoIn s e) (hw : Ur s e ≠ 0) : Aah s e (Ur s e) := by
 have hb := Cx hi.ck;obtain ⟨b1, b2, b3, b4, b5, b6, b7⟩ := hb;unfold Ur at hw ⊢;rcases Classical.em (e.kind = 8 ∨ e.kind = 9) with h89 | h89
 · rw [if_pos h89] at hw; exact absurd rfl hw
 rw [if_neg h89] at hw ⊢;rcases Classical.em (e.kind = 1 ∨ e.kind = 2) with h12 | h12
 · rw [if_pos h12] at hw ⊢;exact Alr hi.ok h12 hw
 rw [if_neg h12] at hw ⊢;have hk : e.kind = 3 ∨ e.kind = 4 ∨ e.kind = 5 ∨ e.kind = 6 ∨ e.kind = 7 := by omega
 cases ho : E9 s.objs (Ay e) with
 | none =>
   have : isO s.objs (Ay e) = false := by rw [Amj hi.ok.so, ho]; rfl
   exact Alp hi.ok hk this
 | some o =>
   rw [ho] at hw;simp only at hw ⊢;obtain ⟨g1, g2⟩ := G3 ho;rcases Classical.em (e.kind = 7) with h7 | h7
   · rw [if_pos h7] at hw ⊢;exact Abk hi.ok h7 hw g1 g2
   rw [if_neg h7] at hw ⊢;rcases Classical.em (e.kind = 6) with h6 | h6
   · rw [if_pos h6] at hw; exact absurd rfl hw
   rw [if_neg h6] at hw ⊢;have hk : e.kind = 3 ∨ e.kind = 4 ∨ e.kind = 5 := by omega
   rcases Classical.em (o.dir = true) with hd | hd
   · rw [if_pos hd]; exact Aqy hi.ok hk g1 g2 hd
   rw [if_neg hd] at hw ⊢;rcases Classical.em (Di o.vers e.base.l) with hm | hm
   · rw [if_pos hm]; exact Ags hi.ok hi.ev g1 g2 (by simpa using hd) (hi.vo hk o (List.mem_of_getElem? g1)) hm
   · rw [if_neg hm] at hw; exact absurd rfl hw
theorem Bby {s : St} {e : Evt} (hi : DoIn s e) (hw : Ur s e = 0) (hk : ¬ (e.kind = 8 ∨ e.kind = 9)) : ∃ r, PImpR r ((doS s e).objs.map Aq) ∧
 ∀ {h : Nat → Option Blk} {d : Nat}, h 6 = some (.var (Jl s)) → h 38 = some (.row 15 (s.objs.map Aq)) → DeepOk Tryz.prog 106 [.p 6 0, .vec 21 (Bc e)] h d (.pv (.i .i64 0)) [.new 38 (.row 15 r), .upd 6 (.var (Jl (doS s e)))] := by
 have hb := Cx hi.ck;obtain ⟨b1, b2, b3, b4, b5, b6, b7⟩ := hb;have n8 : ¬ e.kind = 8 := fun h => hk (.inl h);have n9 : ¬ e.kind = 9 := fun h => hk (.inr h);unfold Ur at hw;unfold doS;rw [if_neg hk] at hw;rw [if_neg n8, if_neg n9];by_cases h12 : e.kind = 1 ∨ e.kind = 2
 · rw [if_pos h12] at hw ⊢;refine ⟨_, ?_, fun hg h38 => A60 hi.ok h12 hw hg h38⟩;simp only [mkS, List.map_append, List.map_take, List.map_drop, List.map_cons];exact PImpR.app (.refl _) ⟨Ajh (Xb e) (.inl rfl), .refl _⟩
 rw [if_neg h12] at hw ⊢;have hk' : e.kind = 3 ∨ e.kind = 4 ∨ e.kind = 5 ∨ e.kind = 6 ∨ e.kind = 7 := by omega
 cases ho : E9 s.objs (Ay e) with
 | none => rw [ho] at hw; cases hw
 | some o =>
   rw [ho] at hw;simp only at hw ⊢;obtain ⟨g1, g2⟩ := G3 ho;by_cases h7 : e.kind = 7
   · rw [if_pos h7] at hw ⊢;exact ⟨_, .refl _, fun hg h38 => Aq1 hi.ok hi.ev h7 hw g1 g2 hg h38⟩
   rw [if_neg h7] at hw ⊢;by_cases h6 : e.kind = 6
   · rw [if_pos h6];exact ⟨_, .refl _, fun hg h38 => Aq2 hi.ok hi.ev h6 g1 g2 hg h38⟩
   rw [if_neg h6] at hw ⊢;have hk : e.kind = 3 ∨ e.kind = 4 ∨ e.kind = 5 := by omega
   by_cases hd : o.dir = true
   · rw [if_pos hd] at hw; cases hw
   rw [if_neg hd] at hw;by_cases hm : Di o.vers e.base.l
   · rw [if_pos hm] at hw; cases hw
   · exact ⟨_, .refl _, fun hg h38 => A6z hi.ok hi.ev g1 g2 (by simpa using hd) (hi.vo hk o (List.mem_of_getElem? g1)) hm hg h38⟩
theorem Atd {s : St} (hs : StIn s) {e : Evt} (h : Bg s.known e.rep e.seq = false) {o : Obj} (ho : o ∈ s.objs) : Bp o.vers e.rep e.seq = none := by
 rw [P4];intro v hv ⟨h1, h2⟩;have := hs.sk o ho v hv;rw [h1, h2, h] at this; cases this
theorem Amd {s : St} (hs : StIn s) {e : Evt} (he : ev e) (hc : Bd e = true) (h : Bg s.known e.rep e.seq = false) : DoIn (Hl s e) e :=
 ⟨⟨⟨hs.fine.on, hs.fine.ov, hs.fine.en⟩, hs.so, hs.se⟩, he, hc, fun hk o ho => ⟨hs.sv o ho, X4 hc hk (hs.sd o ho), Atd hs h ho, Nat.le_trans (Pg hc hk) (by omega)⟩⟩
theorem Ajq (a b : PV) (w : Nat → Int) (r : Nat → Bool) {j : Nat} (hj : j < 8) (K : KK) : LoadK (some (a :: b :: (iE w ++ wE r))) (18 + j - 8) 1 false K = K (.pv (.b (r j))) [] := by
 have e : 18 + j - 8 = 10 + j := by omega
 rw [e];simp only [LoadK, Hv, eq_iff_iff];have e2 : (a :: b :: (iE w ++ wE r)).getD (10 + j) (.b false) = .b (r j) := by
  have hk2 : j = 0 ∨ j = 1 ∨ j = 2 ∨ j = 3 ∨ j = 4 ∨ j = 5 ∨ j = 6 ∨ j = 7 := by omega
  simp only [iE, wE, Cj];rcases hk2 with rfl | rfl | rfl | rfl | rfl | rfl | rfl | rfl <;> rfl
 rw [e2];exact ⟨fun h => h.2.2, fun h => ⟨by simp [Th, Sb]; omega, .inr trivial, h⟩⟩
theorem Uz {x y z : SV} (h : Imp x y) : Imp (.tup [x, z]) (.tup [y, z]) := Aya ⟨h, Imp.refl _, trivial⟩
noncomputable def Aa8 (s : St) (e : Evt) : St := if Ew s e = 0 then Hs s e else st0
theorem Qs {s : St} {e : Evt} {n : Int} (h : Ew s e = n) (hn : n ≠ 0) : Imp (.tup [.agg [.vec 8 (vE fun _ => 0), .pv (.sl true 0 []), .pv (.sl true 0 []), .vec 8 (iE fun _ => 0), .vec 8 (wE fun _ => false)], .pv (.i .i64 n)]) (.tup [.agg (Ba (Aa8 s e)), .pv (.i .i64 (Ew s e))]) := by
 have e1 : Aa8 s e = st0 := if_neg (by rw [h]; exact hn);rw [e1, h];exact Uz Wq
set_option maxHeartbeats 8000000 in
theorem Ajg {s : St} {e : Evt} (hs : StIn s) (he : ev e) {h d} : FunOk Tryz.prog 71 [.agg (Ba s), .vec 21 (Bc e)] h d (.tup [.agg (Ba (Aa8 s e)), .pv (.i .i64 (Ew s e))]) [] := by
 refine Tm Af fn71 (by simp) rfl rfl fun F => ?_;simp (disch := omega) only [ir71, Ba, A6, Bh, go_sem];refine Aa (Aw9 e he) ?_;by_cases hc' : Bd e = false
 · have hw : Ew s e = 7 := if_pos hc';simp (disch := omega) only [hc', go_sem];refine Ch ?_;simp (disch := omega) only [go_sem];exact Qs hw (by decide)
 have hc : Bd e = true := by simpa using hc'
 have hb := Cx hc;obtain ⟨b1, b2, _⟩ := hb;simp (disch := omega) only [hc, Aw, Fa, go_sem];refine Aa (G2 _ _ _) ?_;by_cases h1 : Bg s.known e.rep e.seq = true
 · have hw : Ew s e = 11 := by unfold Ew; rw [if_neg hc', if_pos h1]
   simp (disch := omega) only [h1, go_sem];refine Ch ?_;simp (disch := omega) only [go_sem];exact Qs hw (by decide)
 have h1' : Bg s.known e.rep e.seq = false := by simpa using h1
 simp (disch := omega) only [h1', Fa, go_sem];refine Aa (Aqp _ _) ?_;by_cases h2 : Mz e.dep s.known;rotate_left
 · have hw : Ew s e = 10 := by unfold Ew; rw [if_neg hc', if_neg h1, if_pos h2]
   have h2' := decide_eq_false h2;simp (disch := omega) only [h2', go_sem];refine Ch ?_;simp (disch := omega) only [go_sem];exact Qs hw (by decide)
 have h2' := decide_eq_true h2;obtain ⟨k, hk8, hre⟩ : ∃ k : Nat, k < 8 ∧ e.rep - 1 = k := ⟨(e.rep - 1).toNat, by omega, by omega⟩
 have hld := fun (a b : PV) (w : Nat → Int) (r : Nat → Bool) (K : KK) => Ajq a b w r hk8 K;simp (disch := omega) only [h2', Dd, hre, hld, go_sem];by_cases h3 : s.ret k = true
 · have hw : Ew s e = 28 := by unfold Ew; rw [if_neg hc', if_neg h1, if_neg (by simpa using h2), if_pos (by rw [hre]; exact h3)]
   simp (disch := omega) only [h3, go_sem];refine Ch ?_;simp (disch := omega) only [go_sem];exact Qs hw (by decide)
 have h3' : s.ret k = false := by simpa using h3
 have hw : Ew s e = Ur (Hl s e) e := by unfold Ew; rw [if_neg hc', if_neg h1, if_neg (by simpa using h2), if_neg (by rw [hre]; exact h3)]; rfl
 simp (disch := omega) only [h3', go_sem];refine Aa (Aq6 (s := s) hs.fine) ?_;simp (disch := omega) only [A6, Fb, Aw, go_sem];refine Aa (Abd s.known e.rep e.seq) ?_;have hvl := Bl (A8 s.known e.rep e.seq);simp (disch := omega) only [Bh, hvl, go_sem];have hdi := Amd hs he hc h1';by_cases hz : Ur (Hl s e) e = 0;rotate_left
 · generalize hH : FS.h _ = H;have g6 : H 6 = some (.var (Jl (Hl s e))) := by rw [← hH]; rfl
   have g38 : H 38 = some (.row 15 ((Hl s e).objs.map Aq)) := by rw [← hH]; rfl
   obtain ⟨r, X, hdo⟩ := A88 hdi hz H 46 g6 g38;refine H5 hdo ?_;simp (disch := omega) only [hz, go_sem];refine Ch ?_;simp (disch := omega) only [go_sem];exact Qs hw hz
 have hR : Aa8 s e = doS (Hl s e) e := if_pos (hw.trans hz);rw [hR, hw, hz];by_cases h8 : e.kind = 8
 · have hS : doS (Hl s e) e = Ii (Hl s e) e := if_pos h8;rw [hS];refine H5 (Aqz (s := Hl s e) h8 ⟨b1, b2⟩ rfl rfl) ?_;simp (disch := omega) only [Ba, A6, go_sem];refine Ch ?_;simp (disch := omega) only [go_sem]
 by_cases h9 : e.kind = 9
 · have hS : doS (Hl s e) e = Oz (Hl s e) e := by unfold doS; rw [if_neg h8, if_pos h9]
   rw [hS];refine H5 (Aw6 (s := Hl s e) h9 ⟨b1, b2⟩ rfl rfl) ?_;simp (disch := omega) only [Ba, A6, go_sem];refine Ch ?_;simp (disch := omega) only [go_sem]
 obtain ⟨r, hr, hdo⟩ := Bby hdi hz (fun h => h.elim h8 h9);refine H5 (hdo rfl rfl) ?_;generalize doS (Hl s e) e = S at *;simp (disch := omega) only [Jl, A6, Fb, go_sem];refine ⟨_, D7 38 rfl (.same _), ?_⟩
 (try simp only [Cf, Ce, Cd, Cc, Cb, Ca, B9, B0]); simp (disch := omega) only [go_sem]
 exact Uz (U6 (s := S) (.inr rfl) (.inr rfl) hr (.refl _))
end Go.Proofs.YthmjebkldgdeiaaGreat.Fw
namespace Go.Proofs.YthmjebkldgdeiaaGreat.Fw
open Go.RowKit Go.Proofs
theorem Aqf (r : Int) (q : Nat) {h d} : FunOk Tryz.prog 131 [.vec 2 [.i .i64 r, .i .u32 q]] h d (.pv (.b (Cg r q))) [] := by
 refine Al Af fn131 (by simp) rfl rfl fun F => ?_;by_cases h1 : r = 0
 · by_cases h2 : q = 0
   · have e : Cg r q = true := decide_eq_true ⟨h1, h2⟩;have h2' : (q : Int) = 0 := by omega
     simp (disch := omega) only [ir131, S8, S7, h1, h2', e, go_sem];simp [Cg, h2]
   · have e : Cg r q = false := decide_eq_false fun h => h2 h.2;have h2' : ¬ (q : Int) = 0 := by omega
     simp (disch := omega) only [ir131, S8, S7, h1, h2', e, go_sem];simp [Cg, h2]
 · have e : Cg r q = false := decide_eq_false fun h => h1 h.1;simp (disch := omega) only [ir131, S8, S7, h1, e, go_sem]
def Aaw (f : Bool) (l : List Bn) (i : Bn) (k : Nat) : FS := mk [(5, .pv (.i .i64 k)), (0, .pv (.sl f 2 (l.map Ed))), (3, .p 3 0)] [(3, some (.var (.vec 2 [.i .i64 i.1, .i .u32 i.2])))]
set_option maxHeartbeats 1000000 in
theorem Pv (g : SlI) (i : Bn) (hg : g.ok) {h d} (hn : g.l.length ≤ 1000) : FunOk Tryz.prog 99 [.pv g.pv, .vec 2 [.i .i64 i.1, .i .u32 i.2]] h d (.pv (.b (decide (i ∈ g.l)))) [] := by
 refine FunOk.imp (args' := [.pv (.sl g.f 2 (g.l.map Ed)), .vec 2 [.i .i64 i.1, .i .u32 i.2]]) ?_ ⟨U5 g hg, Imp.refl _, trivial⟩ (by simp [A3, tn]);refine Al Af fn99 (by simp) rfl rfl fun F => ?_;generalize g.f = f;generalize g.l = l at *;simp (disch := omega) only [ir99, List.length_map, go_sem];refine A0 Af (Aaw f l i) (fun k => k ≤ l.length ∧ ∀ j x, j < k → l[j]? = some x → i ≠ x) (fun k => l.length - k) 0 ⟨by simp, fun j x hj => absurd hj (Nat.not_lt_zero j)⟩ (Ah ?_ ?_) fun k hk => ?_
 · simp (disch := omega) only [go_sem]
 · simp (disch := omega) only [go_sem]
 obtain ⟨hk1, hk2⟩ := hk;by_cases hlt : k < l.length
 · have hx : l[k]? = some l[k] := List.getElem?_eq_getElem hlt;have he : (l.map Ed)[k]? = some (Ed l[k]) := by rw [List.getElem?_map, hx]; rfl
   have hm := List.getElem_mem hlt;generalize l[k] = b at *;by_cases hb : b = i
   · have hp := Fo hb;have e : decide (i ∈ l) = true := decide_eq_true (hb ▸ hm);simp (disch := omega) only [Aaw, List.length_map, he, Ek, Ae, hp, e, go_sem]
   · have hp := Fp hb;simp (disch := omega) only [Aaw, List.length_map, he, Ek, Ae, hp, go_sem];refine Ad (k + 1) _ _ rfl ⟨by omega, fun j x hj hjx => ?_⟩ (by omega) ?_ ?_
     · by_cases ej : j = k
       · subst ej; rw [hx] at hjx; cases hjx; exact fun q => hb q.symm
       · exact hk2 j x (by omega) hjx
     · simp (disch := omega) only [go_sem]
     · simp (disch := omega) only [go_sem]
 · obtain rfl : k = l.length := by omega
   have e : decide (i ∈ l) = false := decide_eq_false fun hm => by
    obtain ⟨j, hj⟩ := List.mem_iff_getElem?.1 hm;exact hk2 j i (List.getElem?_eq_some_iff.1 hj).1 hj rfl
   simp (disch := omega) only [Aaw, List.length_map, e, go_sem]
theorem Aot (v : Vc) (r : Int) (q : Nat) : vE (Cp v (Qy r q)) = vE (A8 v r q) := Lq fun i hi => (Acu v r q i hi).symm
theorem E7 (v : Vc) (r : Int) (q : Nat) {h d} : FunOk Tryz.prog 62 [.vec 8 (vE v), .vec 2 [.i .i64 r, .i .u32 q]] h d (.vec 8 (vE (A8 v r q))) [] := by
 rw [← Aot]; exact U8 v r q
def Bi (l : List Evt) : Vc := l.foldl (fun v e => A8 v e.rep e.seq) (fun _ => 0)
theorem Ip (l : List Evt) (e : Evt) : Bi (l ++ [e]) = A8 (Bi l) e.rep e.seq := by simp [Bi]
def Aav (f : Bool) (l : List Evt) (k : Nat) : FS := mk [(4, .pv (.i .i64 k)), (0, .pv (.sl f 21 (l.map Bc))), (3, .p 3 0), (2, .p 2 0)] [(3, some (.var (.vec 8 (vE (Bi (l.take k)))))), (2, some (.var (.vec 8 (vE fun _ => 0))))]
set_option maxHeartbeats 1000000 in
theorem Abj {x : SV} {f : Bool} {l : List Evt} {h d} (hx : Cw h [x] = [.pv (.sl f 21 (l.map Bc))]) (hl : Bj [x] = true) (hn : l.length ≤ 1000) : FunOk Tryz.prog 19 [x] h d (.vec 8 (vE (Bi l))) [] := by
 refine C5 Af fn19 (by simp) hl (Ain _) fun F => ?_;rw [hx];simp (disch := omega) only [ir19, go_sem];refine A0 Af (Aav f l) (fun k => k ≤ l.length) (fun k => l.length - k) 0 (by simp) (Ah ?_ ?_) fun k hk => ?_
 · simp (disch := omega) only [go_sem]
 · simp (disch := omega) only [Bi, List.take_zero, List.foldl_nil, go_sem]
 by_cases hlt : k < l.length
 · have hx : l[k]? = some l[k] := List.getElem?_eq_getElem hlt;have he : (l.map Bc)[k]? = some (Bc l[k]) := by rw [List.getElem?_map, hx]; rfl
   have ht := Cz hx;generalize l[k] = e at *;have hs : Bi (l.take (k + 1)) = A8 (Bi (l.take k)) e.rep e.seq := by rw [ht, Ip]
   simp (disch := omega) only [Aav, List.length_map, he, Aw, go_sem];refine Aa (E7 _ _ _) ?_;simp (disch := omega) only [go_sem];refine Ad (k + 1) _ _ rfl (by omega) (by omega) ?_ ?_
   · simp (disch := omega) only [go_sem]
   · simp (disch := omega) only [hs, go_sem]
 · obtain rfl : k = l.length := by omega
   have htk : l.take l.length = l := List.take_length;simp (disch := omega) only [Aav, List.length_map, htk, go_sem]
def Ir (l : List Evt) (i : Bn) : Option Evt := l.find? fun e => decide (Ak e = i)
def Aay (f : Bool) (l : List Evt) (i : Bn) (z : SV) (k : Nat) : FS := mk [(6, .pv (.i .i64 k)), (0, .pv (.sl f 21 (l.map Bc))), (3, .p 3 0), (4, .p 4 0)] [(3, some (.var (.vec 2 [.i .i64 i.1, .i .u32 i.2]))), (4, some (.var z))]
theorem Ayw {l : List Evt} {i : Bn} {k : Nat} {e : Evt} (h : ∀ j x, j < k → l[j]? = some x → Ak x ≠ i) (hx : l[k]? = some e) (he : Ak e = i) : Ir l i = some e := by
 obtain ⟨hlt, hg⟩ := List.getElem?_eq_some_iff.1 hx;unfold Ir;rw [List.find?_eq_some_iff_getElem];refine ⟨by simpa using he, k, hlt, hg, fun j hj => ?_⟩;simpa using h j _ hj (List.getElem?_eq_getElem (by omega))
theorem Am7 {l : List Evt} {i : Bn} (h : ∀ j x, j < l.length → l[j]? = some x → Ak x ≠ i) : Ir l i = none := by
 unfold Ir;rw [List.find?_eq_none];intro x hx;obtain ⟨j, hj⟩ := List.mem_iff_getElem?.1 hx;simpa using h j x (List.getElem?_eq_some_iff.1 hj).1 hj
set_option maxHeartbeats 1000000 in
theorem Aqx {f : Bool} {l : List Evt} (i : Bn) {h d} (hn : l.length ≤ 1000) : FunOk Tryz.prog 52 [.pv (.sl f 21 (l.map Bc)), .vec 2 [.i .i64 i.1, .i .u32 i.2]] h d (match Ir l i with | some e => .tup [.vec 21 (Bc e), .pv (.b true)] | none => .tup [.vec 21 (Bc ⟨0, 0, fun _ => 0, 0, 0, 0, 0, 0, [], .nil, .nil, 0, [], 0⟩), .pv (.b false)]) [] := by
 refine Tm Af fn52 (by simp) rfl (by split <;> rfl) fun F => ?_;simp (disch := omega) only [ir52, List.length_map, go_sem];refine A0 Af (Aay f l i (.agg [.pv (.i .i64 0), .pv (.i .u32 0), .vec 8 (vE fun _ => 0), .pv (.i .i64 0), .pv (.i .i64 0), .pv (.i .u32 0), .pv (.i .i64 0), .pv (.i .u32 0), .pv (.s []), .pv (.sl true 0 []), .pv (.sl true 0 []), .pv (.i .i64 0), .pv (.s []), .pv (.i .i64 0)])) (fun k => k ≤ l.length ∧ ∀ j x, j < k → l[j]? = some x → Ak x ≠ i) (fun k => l.length - k) 0 ⟨by simp, fun j x hj => absurd hj (Nat.not_lt_zero j)⟩ (Ah ?_ ?_) fun k hk => ?_
 · simp (disch := omega) only [go_sem]
 · simp (disch := omega) only [go_sem]
 obtain ⟨hk1, hk2⟩ := hk;by_cases hlt : k < l.length
 · have hx : l[k]? = some l[k] := List.getElem?_eq_getElem hlt;have he : (l.map Bc)[k]? = some (Bc l[k]) := by rw [List.getElem?_map, hx]; rfl
   generalize l[k] = e at *;by_cases hb : Ak e = i
   · have hp := Fo hb;have hf := Ayw hk2 hx hb;rw [hf]
     (try simp only [Cf, Ce, Cd, Cc, Cb, Ca, B9, B0]); simp (disch := omega) only [Aay, List.length_map, he, Aw, Ae, hp, Bh, go_sem]
     refine Ch ?_;simp (disch := omega) only [go_sem]
   · have hp := Fp hb;simp (disch := omega) only [Aay, List.length_map, he, Aw, Ae, hp, go_sem];refine Ad (k + 1) _ _ rfl ⟨by omega, fun j x hj hjx => ?_⟩ (by omega) ?_ ?_
     · by_cases ej : j = k
       · subst ej; rw [hx] at hjx; cases hjx; exact hb
       · exact hk2 j x (by omega) hjx
     · simp (disch := omega) only [go_sem]
     · simp (disch := omega) only [go_sem]
 · obtain rfl : k = l.length := by omega
   rw [Am7 hk2]
   (try simp only [Cf, Ce, Cd, Cc, Cb, Ca, B9, B0]); simp (disch := omega) only [Aay, List.length_map, go_sem]
   refine Ch ?_;simp (disch := omega) only [go_sem];exact Uz (Gy rfl (by simp [Ac]))
theorem K8 (e : Evt) {h d} : FunOk Tryz.prog 132 [.vec 21 (Bc e)] h d (.pv (.b (decide (e.kind = 3 ∨ e.kind = 4 ∨ e.kind = 5)))) [] := by
 refine Al Af fn132 (by simp) rfl rfl fun F => ?_;by_cases h3 : e.kind = 3
 · simp (disch := omega) only [ir132, Ag, h3, go_sem]
 by_cases h4 : e.kind = 4
 · simp (disch := omega) only [ir132, Ag, h4, go_sem]
 by_cases h5 : e.kind = 5
 · simp (disch := omega) only [ir132, Ag, h5, go_sem]
 · simp (disch := omega) only [ir132, Ag, h3, h4, h5, go_sem]
def Yr (s : List UInt8) (n : Int) : List UInt8 := if n < 0 ∨ 200 < n then [] else O5 s n.toNat
open Classical in
noncomputable def Kv (s : List UInt8) (n : Int) (t : List UInt8) : List UInt8 := if D9 s n t then [] else I2 s n.toNat t
noncomputable def Gl (e : Evt) (was : List UInt8) : List UInt8 := if e.kind = 5 then e.data else if e.kind = 4 then Yr was e.off else Kv was e.off e.data
noncomputable def De (l : List Evt) : Nat → Bn → List UInt8
 | 0, _ => []
 | n + 1, i => match Ir l i with
   | none => []
   | some e => Gl e (match e.base.l with | [] => [] | b :: _ => De l n b)
theorem Ae3 (s : List UInt8) (n : Nat) : (O5 s n).length = n := by
 unfold O5; split
 · simp; omega
 · simp [R7]; omega
theorem W0 (s t : List UInt8) (n : Nat) : (I2 s n t).length = max s.length (n + t.length) := by
 unfold I2; simp [R7]; omega
theorem Akw {e : Evt} (he : e.data.length ≤ 1000) (was : List UInt8) : (Gl e was).length ≤ 1000 := by
 unfold Gl;split
 · exact he
 · split
   · unfold Yr; split
     · simp
     · rw [Ae3]; omega
   · unfold Kv; split
     · simp
     · rename_i h;unfold D9 at h;rw [W0]; omega
theorem Ahv {l : List Evt} (h : ∀ e ∈ l, e.data.length ≤ 1000) (n : Nat) (i : Bn) : (De l n i).length ≤ 1000 := by
 cases n with
 | zero => simp [De]
 | succ n =>
   simp only [De];split
   · simp
   · rename_i e he;exact Akw (h e (List.mem_of_find?_eq_some he)) _
def Grd (l : List Evt) (rk : Evt → Nat) : Prop := ∀ e ∈ l, e.kind ≠ 5 → ∀ b t, e.base.l = b :: t → ∀ e', Ir l b = some e' → rk e' < rk e
theorem Abl {l : List Evt} {i : Bn} (hn : l.length ≤ 1000) (hf : Ir l i = none) {x : SV} {f : Bool} {h d} (hx : Cw h [x, .vec 2 [.i .i64 i.1, .i .u32 i.2]] = [.pv (.sl f 21 (l.map Bc)), .vec 2 [.i .i64 i.1, .i .u32 i.2]]) (hl : Bj [x, .vec 2 [.i .i64 i.1, .i .u32 i.2]] = true) :
 FunOk Tryz.prog 133 [x, .vec 2 [.i .i64 i.1, .i .u32 i.2]] h d (.pv (.s [])) [] := by
 refine C5 Af fn133 (by simp) hl rfl fun F => ?_;rw [hx];simp (disch := omega) only [ir133, go_sem];refine Aa (Aqx (l := l) i hn) ?_;rw [hf]
 (try simp only [Cf, Ce, Cd, Cc, Cb, Ca, B9, B0]); simp (disch := omega) only [Ac, go_sem]
set_option maxHeartbeats 4000000 in
theorem Ad2 {l : List Evt} {rk : Evt → Nat} (hg : Grd l rk) (hn : l.length ≤ 1000) (hev : ∀ e ∈ l, ev e ∧ e.data.length ≤ 1000) : ∀ (n : Nat) (i : Bn), (∀ e, Ir l i = some e → rk e < n) → ∀ (x : SV) (f : Bool) (h : Nat → Option Blk) (d : Nat), Cw h [x, .vec 2 [.i .i64 i.1, .i .u32 i.2]] = [.pv (.sl f 21 (l.map Bc)), .vec 2 [.i .i64 i.1, .i .u32 i.2]] → Bj [x, .vec 2 [.i .i64 i.1, .i .u32 i.2]] = true →
 FunOk Tryz.prog 133 [x, .vec 2 [.i .i64 i.1, .i .u32 i.2]] h d (.pv (.s (De l n i))) []
 | 0, i, hr => by
   intro x f h d hx hl;have hf : Ir l i = none := by
    cases hq : Ir l i with
    | none => rfl
    | some e => exact absurd (hr e hq) (Nat.not_lt_zero _)
   exact Abl hn hf hx hl
 | n + 1, i, hr => by
   intro x f h d hx hl;refine C5 Af fn133 (by simp) hl rfl fun F => ?_;rw [hx];simp (disch := omega) only [ir133, go_sem];refine Aa (Aqx (l := l) i hn) ?_;cases hf : Ir l i with
   | none =>
     have eB : De l (n + 1) i = [] := by simp only [De, hf]
     (try simp only [Cf, Ce, Cd, Cc, Cb, Ca, B9, B0]); simp (disch := omega) only [eB, Ac, go_sem]
   | some e =>
     have hm := List.mem_of_find?_eq_some hf;obtain ⟨he, hd⟩ := hev e hm;have hpv : e.base.pv = .sl e.base.f e.base.z (e.base.l.map Ed) := rfl;have hel := Ac e;by_cases h5 : e.kind = 5
     · have eB : De l (n + 1) i = e.data := by simp only [De, hf, Gl, if_pos h5]
       (try simp only [Cf, Ce, Cd, Cc, Cb, Ca, B9, B0]); simp (disch := omega) only [hel, Ag, h5, Hk, eB, go_sem]
     cases hbl : e.base.l with
     | nil =>
       obtain ⟨was, hwas⟩ : ∃ was : List UInt8, was = [] := ⟨_, rfl⟩
       have hwl : was.length ≤ 1000 := by rw [hwas]; simp
       have eB : De l (n + 1) i = Gl e was := by simp only [De, hf, hbl]; rw [hwas]
       (try simp only [Cf, Ce, Cd, Cc, Cb, Ca, B9, B0]); simp (disch := omega) only [hel, Ag, h5, Fh, hpv, hbl, List.map_nil, ← hwas, go_sem]
       by_cases h4 : e.kind = 4
       · have eS : Gl e was = Yr was e.off := by unfold Gl; rw [if_neg h5, if_pos h4]
         (try simp only [Cf, Ce, Cd, Cc, Cb, Ca, B9, B0]); simp (disch := omega) only [Ag, h4, Jg, go_sem]
         refine Aa (Aq4 was e.off hwl) ?_;by_cases hb : e.off < 0 ∨ 200 < e.off
         · have ec := Jq (data := was) hb;have ew : Yr was e.off = [] := if_pos hb;simp (disch := omega) only [ec, eB, eS, ew, go_sem]
         · have ec := Lj (data := was) hb;have ew : Yr was e.off = O5 was e.off.toNat := if_neg hb;simp (disch := omega) only [ec, eB, eS, ew, go_sem]
       · have eS : Gl e was = Kv was e.off e.data := by unfold Gl; rw [if_neg h5, if_neg h4]
         (try simp only [Cf, Ce, Cd, Cc, Cb, Ca, B9, B0]); simp (disch := omega) only [Ag, h4, Jg, Hk, go_sem]
         refine Aa (Adt was e.data e.off hd) ?_;by_cases hb : D9 was e.off e.data
         · have ec := Ej hb;have ew : Kv was e.off e.data = [] := if_pos hb;simp (disch := omega) only [ec, eB, eS, ew, go_sem]
         · have ec := Jn hb;have ew : Kv was e.off e.data = I2 was e.off.toNat e.data := if_neg hb;simp (disch := omega) only [ec, eB, eS, ew, go_sem]
     | cons b t =>
       have hok : e.base.z = 2 := he.2.1.resolve_left (by rw [hbl]; simp);have h0 : (List.map Ed (b :: t))[0]? = some (Ed b) := rfl;have hpos : (0 : Int) < ((t.length : Int) + 1) := by omega
       have hrk := hg e hm h5 b t hbl;have hre := hr e hf
       (try simp only [Cf, Ce, Cd, Cc, Cb, Ca, B9, B0]); simp (disch := omega) only [hel, Ag, h5, Fh, hpv, hbl, hok, List.length_map, h0, Ek, go_sem]
       refine Aa (Ad2 hg hn hev n b (fun e' he' => by have := hrk e' he'; omega) _ f _ _ rfl rfl) ?_;have eB : De l (n + 1) i = Gl e (De l n b) := by simp only [De, hf, hbl]
       have hwl := Ahv (fun e he => (hev e he).2) n b (l := l);generalize De l n b = was at *;simp (disch := omega) only [go_sem];by_cases h4 : e.kind = 4
       · have eS : Gl e was = Yr was e.off := by unfold Gl; rw [if_neg h5, if_pos h4]
         (try simp only [Cf, Ce, Cd, Cc, Cb, Ca, B9, B0]); simp (disch := omega) only [Ag, h4, Jg, go_sem]
         refine Aa (Aq4 was e.off hwl) ?_;by_cases hb : e.off < 0 ∨ 200 < e.off
         · have ec := Jq (data := was) hb;have ew : Yr was e.off = [] := if_pos hb;simp (disch := omega) only [ec, eB, eS, ew, go_sem]
         · have ec := Lj (data := was) hb;have ew : Yr was e.off = O5 was e.off.toNat := if_neg hb;simp (disch := omega) only [ec, eB, eS, ew, go_sem]
       · have eS : Gl e was = Kv was e.off e.data := by unfold Gl; rw [if_neg h5, if_neg h4]
         (try simp only [Cf, Ce, Cd, Cc, Cb, Ca, B9, B0]); simp (disch := omega) only [Ag, h4, Jg, Hk, go_sem]
         refine Aa (Adt was e.data e.off hd) ?_;by_cases hb : D9 was e.off e.data
         · have ec := Ej hb;have ew : Kv was e.off e.data = [] := if_pos hb;simp (disch := omega) only [ec, eB, eS, ew, go_sem]
         · have ec := Jn hb;have ew : Kv was e.off e.data = I2 was e.off.toNat e.data := if_neg hb;simp (disch := omega) only [ec, eB, eS, ew, go_sem]
def mkB (e : Evt) : Bool := decide (e.kind = 1 ∨ e.kind = 2 ∨ e.kind = 7)
def Ey (e : Evt) : Bn := if e.kind = 7 then Ay e else Ak e
def Hz (f : Evt) (obj id : Bn) : Bool := decide (f.kind = 6 ∨ f.kind = 7) && (decide (Ay f = obj) && decide (id ∈ f.gone.l))
def byG (l : List Evt) (obj id : Bn) : Vc := l.foldl (fun g f => if Hz f obj id = true then A8 g f.rep f.seq else g) fun _ => 0
theorem Ry (l : List Evt) (f : Evt) (obj id : Bn) : byG (l ++ [f]) obj id = if Hz f obj id = true then A8 (byG l obj id) f.rep f.seq else byG l obj id := by simp [byG]
def Da (m : List Evt) (e : Evt) : Ent := ⟨Ak e, Ho e, e.name, Ey e, byG m (Ey e) (Ak e)⟩
def C2 (l m : List Evt) : List Ent := m.foldl (fun out e => if mkB e = true then Ff out (Da l e) false else out) []
theorem P7 (l m : List Evt) (e : Evt) : C2 l (m ++ [e]) = if mkB e = true then Ff (C2 l m) (Da l e) false else C2 l m := by simp [C2]
theorem Ss : ∀ (l : List Ent) (x : Ent) (b : Bool), (Ff l x b).length ≤ l.length + 1
 | [], x, b => by unfold Ff; split <;> simp
 | y :: l, x, b => by
   unfold Ff;split
   · have := Ss l x true; simp only [List.length_cons]; omega
   · split
     · have : Ff l x true = Ff l x true := rfl;have h2 : ∀ l : List Ent, (Ff l x true).length ≤ l.length := fun l => by
        induction l with
        | nil => simp [Ff]
        | cons z l ih => unfold Ff; split <;> simp <;> omega
       have := h2 l;simp only [List.length_cons]; omega
     · have := Ss l x b; simp only [List.length_cons]; omega
theorem Tn (l : List Evt) : ∀ (n : Nat) (m : List Evt), m.length = n → (C2 l m).length ≤ n
 | 0, m, h => by obtain rfl := List.eq_nil_of_length_eq_zero h; simp [C2]
 | n + 1, m, h => by
   have hne : m ≠ [] := fun e => by subst e; simp at h
   have e1 := (List.dropLast_concat_getLast hne).symm;have h1 := Tn l n m.dropLast (by simp [h]);rw [e1, P7];split
   · have := Ss (C2 l m.dropLast) (Da l (m.getLast hne)) false; omega
   · omega
def Yy (f : Bool) (l : List Evt) (k : Nat) : FS := mk [(4, .pv (.i .i64 k)), (3, .os 40), (0, .pv (.sl f 21 (l.map Bc)))] [(40, some (.row 15 ((C2 l (l.take k)).map Bq)))]
def Eh (f : Bool) (l : List Evt) (k : Nat) (e : Evt) (j : Nat) : FS := mk [(7, .pv (.i .i64 j)), (4, .pv (.i .i64 k)), (3, .os 40), (6, .p 6 0), (0, .pv (.sl f 21 (l.map Bc)))] [(6, some (.var (.vec 15 (Bq (Da (l.take j) e))))), (40, some (.row 15 ((C2 l (l.take k)).map Bq)))]
set_option maxHeartbeats 8000000 in
theorem Ze {x : SV} {f : Bool} {l : List Evt} {h d} (hx : Cw h [x] = [.pv (.sl f 21 (l.map Bc))]) (hl : Bj [x] = true) (hn : l.length ≤ 1000) (hev : ∀ e ∈ l, ev e) : FunOk Tryz.prog 59 [x] h d (.pv (.sl false 15 ((C2 l l).map Bq))) [] := by
 refine Zw Af fn59 (by simp) hl (Jp _) fun F => ?_;rw [hx];simp (disch := omega) only [ir59, go_sem];refine A0 Af (Yy f l) (fun k => k ≤ l.length) (fun k => l.length - k) 0 (by simp) (Pl 3 40 15 rfl (by omega) (Ah ?_ ?_)) fun k hk => ?_
 · simp (disch := omega) only [go_sem]
 · simp (disch := omega) only [C2, List.take_zero, List.foldl_nil, List.map_nil, go_sem]
 by_cases hlt : k < l.length
 · have hx : l[k]? = some l[k] := List.getElem?_eq_getElem hlt;have he : (l.map Bc)[k]? = some (Bc l[k]) := by rw [List.getElem?_map, hx]; rfl
   have ht := Cz hx;have hel := Ac l[k];have hsn := P7 l (l.take k) l[k];rw [← ht] at hsn;generalize l[k] = e at *;have hlen := Tn l _ (l.take k) rfl;have hlt' : (l.take k).length ≤ 1000 := by simp; omega
   by_cases hmk : mkB e = true;rotate_left
   · rw [if_neg hmk] at hsn;have hk3 : ¬ (e.kind = 1 ∨ e.kind = 2 ∨ e.kind = 7) := by simpa [mkB] using hmk
     have n1 : ¬ e.kind = 1 := by omega
     have n2 : ¬ e.kind = 2 := by omega
     have n7 : ¬ e.kind = 7 := by omega
     simp (disch := omega) only [Yy, List.length_map, he, Bh, hel, Ag, n1, n2, n7, go_sem];refine Ad (k + 1) _ _ rfl (by omega) (by omega) ?_ ?_
     · simp (disch := omega) only [go_sem]
     · simp (disch := omega) only [hsn, go_sem]
   rw [if_pos hmk] at hsn;have hk3 : e.kind = 1 ∨ e.kind = 2 ∨ e.kind = 7 := by simpa [mkB] using hmk
   rcases hk3 with h1 | h2 | h7
   · have hoi : Ey e = Ak e := if_neg (by omega);simp (disch := omega) only [Yy, List.length_map, he, Bh, hel, Ag, h1, Aw, Dj, Du, go_sem];refine A0 Af (Eh f l k e) (fun j => j ≤ l.length) (fun j => l.length - j) 0 (by simp) (Ah ?_ ?_) fun j hj => ?_
     · simp (disch := omega) only [go_sem]
     · simp (disch := omega) only [Da, byG, List.take_zero, List.foldl_nil, hoi, go_sem];exact Gy rfl (Dr _)
     by_cases hjl : j < l.length
     · have hx2 : l[j]? = some l[j] := List.getElem?_eq_getElem hjl;have he2 : (l.map Bc)[j]? = some (Bc l[j]) := by rw [List.getElem?_map, hx2]; rfl
       have ht2 := Cz hx2;have hevj := hev _ (List.getElem_mem hjl);generalize l[j] = g at *;have hB : Da (l.take (j + 1)) e = if Hz g (Ey e) (Ak e) = true then { Da (l.take j) e with gone := A8 (Da (l.take j) e).gone g.rep g.seq } else Da (l.take j) e := by
        unfold Da; rw [ht2, Ry]; split <;> rfl
       have hob : (Da (l.take j) e).obj = Ey e := rfl;have hid : (Da (l.take j) e).id = Ak e := rfl;generalize hX : Da (l.take j) e = X at *;by_cases hg : g.kind = 6 ∨ g.kind = 7;rotate_left
       · have g6 : ¬ g.kind = 6 := fun q => hg (.inl q);have g7 : ¬ g.kind = 7 := fun q => hg (.inr q);have hgo : ¬ Hz g (Ey e) (Ak e) = true := by unfold Hz; simp [hg]
         rw [if_neg hgo] at hB;simp (disch := omega) only [Eh, hX, List.length_map, he2, Ag, g6, g7, go_sem];refine Ad (j + 1) _ _ rfl (by omega) (by omega) ?_ ?_
         · simp (disch := omega) only [go_sem]
         · simp (disch := omega) only [hB, go_sem]
       have hg' := hg;rcases hg with hg6 | hg7
       · skip
         by_cases ho : Ay g = X.obj;rotate_left
         · have hp := Fp ho;have hgo : ¬ Hz g (Ey e) (Ak e) = true := by
            rw [hob] at ho; unfold Hz; simp [ho]
           rw [if_neg hgo] at hB;simp (disch := omega) only [Eh, hX, List.length_map, he2, Ag, hg6, A7, C6, Ae, Bo, hp, go_sem];refine Ad (j + 1) _ _ rfl (by omega) (by omega) ?_ ?_
           · simp (disch := omega) only [go_sem]
           · simp (disch := omega) only [hB, go_sem]
         have hp := Fo ho;have hpv : g.gone.pv = .sl g.gone.f g.gone.z (g.gone.l.map Ed) := rfl;simp (disch := omega) only [Eh, hX, List.length_map, he2, Ag, hg6, A7, C6, Ae, Bo, hp, Ga, Dk, go_sem];refine Aa (Pv g.gone X.id hevj.1 hevj.2.2.1) ?_;by_cases hin : X.id ∈ g.gone.l
         · have hgo : Hz g (Ey e) (Ak e) = true := by
            rw [hob] at ho; rw [hid] at hin; unfold Hz; simp [hg', ho, hin]
           rw [if_pos hgo] at hB;have hsp := Hb X (A8 X.gone g.rep g.seq);have hvl := Bl (A8 X.gone g.rep g.seq);simp (disch := omega) only [hin, Io, List.length_map, he2, Aw, go_sem];refine Aa (E7 _ _ _) ?_;simp (disch := omega) only [hsp, hvl, go_sem];refine Ad (j + 1) _ _ rfl (by omega) (by omega) ?_ ?_
           · simp (disch := omega) only [go_sem]
           · simp (disch := omega) only [hB, go_sem]
         · have hgo : ¬ Hz g (Ey e) (Ak e) = true := by
            rw [hid] at hin; unfold Hz; simp [hin]
           rw [if_neg hgo] at hB;simp (disch := omega) only [hin, go_sem];refine Ad (j + 1) _ _ rfl (by omega) (by omega) ?_ ?_
           · simp (disch := omega) only [go_sem]
           · simp (disch := omega) only [hB, go_sem]
       · have g6 : ¬ g.kind = 6 := by omega
         by_cases ho : Ay g = X.obj;rotate_left
         · have hp := Fp ho;have hgo : ¬ Hz g (Ey e) (Ak e) = true := by
            rw [hob] at ho; unfold Hz; simp [ho]
           rw [if_neg hgo] at hB;simp (disch := omega) only [Eh, hX, List.length_map, he2, Ag, g6, hg7, A7, C6, Ae, Bo, hp, go_sem];refine Ad (j + 1) _ _ rfl (by omega) (by omega) ?_ ?_
           · simp (disch := omega) only [go_sem]
           · simp (disch := omega) only [hB, go_sem]
         have hp := Fo ho;have hpv : g.gone.pv = .sl g.gone.f g.gone.z (g.gone.l.map Ed) := rfl;simp (disch := omega) only [Eh, hX, List.length_map, he2, Ag, g6, hg7, A7, C6, Ae, Bo, hp, Ga, Dk, go_sem];refine Aa (Pv g.gone X.id hevj.1 hevj.2.2.1) ?_;by_cases hin : X.id ∈ g.gone.l
         · have hgo : Hz g (Ey e) (Ak e) = true := by
            rw [hob] at ho; rw [hid] at hin; unfold Hz; simp [hg', ho, hin]
           rw [if_pos hgo] at hB;have hsp := Hb X (A8 X.gone g.rep g.seq);have hvl := Bl (A8 X.gone g.rep g.seq);simp (disch := omega) only [hin, Io, List.length_map, he2, Aw, go_sem];refine Aa (E7 _ _ _) ?_;simp (disch := omega) only [hsp, hvl, go_sem];refine Ad (j + 1) _ _ rfl (by omega) (by omega) ?_ ?_
           · simp (disch := omega) only [go_sem]
           · simp (disch := omega) only [hB, go_sem]
         · have hgo : ¬ Hz g (Ey e) (Ak e) = true := by
            rw [hid] at hin; unfold Hz; simp [hin]
           rw [if_neg hgo] at hB;simp (disch := omega) only [hin, go_sem];refine Ad (j + 1) _ _ rfl (by omega) (by omega) ?_ ?_
           · simp (disch := omega) only [go_sem]
           · simp (disch := omega) only [hB, go_sem]
     · obtain rfl : j = l.length := by omega
       have htk : l.take l.length = l := List.take_length;simp (disch := omega) only [Eh, List.length_map, htk, Fy, go_sem];refine Aa (Abg (l := C2 l (l.take k)) (Da l e) rfl rfl (by omega)) ?_;simp (disch := omega) only [go_sem];refine ⟨k + 1, by omega, by omega, D7 40 rfl (D6 99 40 (by decide) rfl (Ah ?_ ?_))⟩
       · simp (disch := omega) only [go_sem]
       · simp (disch := omega) only [hsn, go_sem]
   · have hoi : Ey e = Ak e := if_neg (by omega);have n1 : ¬ e.kind = 1 := by omega
     simp (disch := omega) only [Yy, List.length_map, he, Bh, hel, Ag, n1, h2, Aw, Dj, Du, go_sem];refine A0 Af (Eh f l k e) (fun j => j ≤ l.length) (fun j => l.length - j) 0 (by simp) (Ah ?_ ?_) fun j hj => ?_
     · simp (disch := omega) only [go_sem]
     · simp (disch := omega) only [Da, byG, List.take_zero, List.foldl_nil, hoi, go_sem];exact Gy rfl (Dr _)
     by_cases hjl : j < l.length
     · have hx2 : l[j]? = some l[j] := List.getElem?_eq_getElem hjl;have he2 : (l.map Bc)[j]? = some (Bc l[j]) := by rw [List.getElem?_map, hx2]; rfl
       have ht2 := Cz hx2;have hevj := hev _ (List.getElem_mem hjl);generalize l[j] = g at *;have hB : Da (l.take (j + 1)) e = if Hz g (Ey e) (Ak e) = true then { Da (l.take j) e with gone := A8 (Da (l.take j) e).gone g.rep g.seq } else Da (l.take j) e := by
        unfold Da; rw [ht2, Ry]; split <;> rfl
       have hob : (Da (l.take j) e).obj = Ey e := rfl;have hid : (Da (l.take j) e).id = Ak e := rfl;generalize hX : Da (l.take j) e = X at *;by_cases hg : g.kind = 6 ∨ g.kind = 7;rotate_left
       · have g6 : ¬ g.kind = 6 := fun q => hg (.inl q);have g7 : ¬ g.kind = 7 := fun q => hg (.inr q);have hgo : ¬ Hz g (Ey e) (Ak e) = true := by unfold Hz; simp [hg]
         rw [if_neg hgo] at hB;simp (disch := omega) only [Eh, hX, List.length_map, he2, Ag, g6, g7, go_sem];refine Ad (j + 1) _ _ rfl (by omega) (by omega) ?_ ?_
         · simp (disch := omega) only [go_sem]
         · simp (disch := omega) only [hB, go_sem]
       have hg' := hg;rcases hg with hg6 | hg7
       · skip
         by_cases ho : Ay g = X.obj;rotate_left
         · have hp := Fp ho;have hgo : ¬ Hz g (Ey e) (Ak e) = true := by
            rw [hob] at ho; unfold Hz; simp [ho]
           rw [if_neg hgo] at hB;simp (disch := omega) only [Eh, hX, List.length_map, he2, Ag, hg6, A7, C6, Ae, Bo, hp, go_sem];refine Ad (j + 1) _ _ rfl (by omega) (by omega) ?_ ?_
           · simp (disch := omega) only [go_sem]
           · simp (disch := omega) only [hB, go_sem]
         have hp := Fo ho;have hpv : g.gone.pv = .sl g.gone.f g.gone.z (g.gone.l.map Ed) := rfl;simp (disch := omega) only [Eh, hX, List.length_map, he2, Ag, hg6, A7, C6, Ae, Bo, hp, Ga, Dk, go_sem];refine Aa (Pv g.gone X.id hevj.1 hevj.2.2.1) ?_;by_cases hin : X.id ∈ g.gone.l
         · have hgo : Hz g (Ey e) (Ak e) = true := by
            rw [hob] at ho; rw [hid] at hin; unfold Hz; simp [hg', ho, hin]
           rw [if_pos hgo] at hB;have hsp := Hb X (A8 X.gone g.rep g.seq);have hvl := Bl (A8 X.gone g.rep g.seq);simp (disch := omega) only [hin, Io, List.length_map, he2, Aw, go_sem];refine Aa (E7 _ _ _) ?_;simp (disch := omega) only [hsp, hvl, go_sem];refine Ad (j + 1) _ _ rfl (by omega) (by omega) ?_ ?_
           · simp (disch := omega) only [go_sem]
           · simp (disch := omega) only [hB, go_sem]
         · have hgo : ¬ Hz g (Ey e) (Ak e) = true := by
            rw [hid] at hin; unfold Hz; simp [hin]
           rw [if_neg hgo] at hB;simp (disch := omega) only [hin, go_sem];refine Ad (j + 1) _ _ rfl (by omega) (by omega) ?_ ?_
           · simp (disch := omega) only [go_sem]
           · simp (disch := omega) only [hB, go_sem]
       · have g6 : ¬ g.kind = 6 := by omega
         by_cases ho : Ay g = X.obj;rotate_left
         · have hp := Fp ho;have hgo : ¬ Hz g (Ey e) (Ak e) = true := by
            rw [hob] at ho; unfold Hz; simp [ho]
           rw [if_neg hgo] at hB;simp (disch := omega) only [Eh, hX, List.length_map, he2, Ag, g6, hg7, A7, C6, Ae, Bo, hp, go_sem];refine Ad (j + 1) _ _ rfl (by omega) (by omega) ?_ ?_
           · simp (disch := omega) only [go_sem]
           · simp (disch := omega) only [hB, go_sem]
         have hp := Fo ho;have hpv : g.gone.pv = .sl g.gone.f g.gone.z (g.gone.l.map Ed) := rfl;simp (disch := omega) only [Eh, hX, List.length_map, he2, Ag, g6, hg7, A7, C6, Ae, Bo, hp, Ga, Dk, go_sem];refine Aa (Pv g.gone X.id hevj.1 hevj.2.2.1) ?_;by_cases hin : X.id ∈ g.gone.l
         · have hgo : Hz g (Ey e) (Ak e) = true := by
            rw [hob] at ho; rw [hid] at hin; unfold Hz; simp [hg', ho, hin]
           rw [if_pos hgo] at hB;have hsp := Hb X (A8 X.gone g.rep g.seq);have hvl := Bl (A8 X.gone g.rep g.seq);simp (disch := omega) only [hin, Io, List.length_map, he2, Aw, go_sem];refine Aa (E7 _ _ _) ?_;simp (disch := omega) only [hsp, hvl, go_sem];refine Ad (j + 1) _ _ rfl (by omega) (by omega) ?_ ?_
           · simp (disch := omega) only [go_sem]
           · simp (disch := omega) only [hB, go_sem]
         · have hgo : ¬ Hz g (Ey e) (Ak e) = true := by
            rw [hid] at hin; unfold Hz; simp [hin]
           rw [if_neg hgo] at hB;simp (disch := omega) only [hin, go_sem];refine Ad (j + 1) _ _ rfl (by omega) (by omega) ?_ ?_
           · simp (disch := omega) only [go_sem]
           · simp (disch := omega) only [hB, go_sem]
     · obtain rfl : j = l.length := by omega
       have htk : l.take l.length = l := List.take_length;simp (disch := omega) only [Eh, List.length_map, htk, Fy, go_sem];refine Aa (Abg (l := C2 l (l.take k)) (Da l e) rfl rfl (by omega)) ?_;simp (disch := omega) only [go_sem];refine ⟨k + 1, by omega, by omega, D7 40 rfl (D6 99 40 (by decide) rfl (Ah ?_ ?_))⟩
       · simp (disch := omega) only [go_sem]
       · simp (disch := omega) only [hsn, go_sem]
   · have hoi : Ey e = Ay e := if_pos h7;have n1 : ¬ e.kind = 1 := by omega
     have n2 : ¬ e.kind = 2 := by omega
     simp (disch := omega) only [Yy, List.length_map, he, Bh, hel, Ag, n1, n2, h7, Aw, Dj, Du, A7, go_sem];refine A0 Af (Eh f l k e) (fun j => j ≤ l.length) (fun j => l.length - j) 0 (by simp) (Ah ?_ ?_) fun j hj => ?_
     · simp (disch := omega) only [go_sem]
     · simp (disch := omega) only [Da, byG, List.take_zero, List.foldl_nil, hoi, go_sem];exact Gy rfl (Dr _)
     by_cases hjl : j < l.length
     · have hx2 : l[j]? = some l[j] := List.getElem?_eq_getElem hjl;have he2 : (l.map Bc)[j]? = some (Bc l[j]) := by rw [List.getElem?_map, hx2]; rfl
       have ht2 := Cz hx2;have hevj := hev _ (List.getElem_mem hjl);generalize l[j] = g at *;have hB : Da (l.take (j + 1)) e = if Hz g (Ey e) (Ak e) = true then { Da (l.take j) e with gone := A8 (Da (l.take j) e).gone g.rep g.seq } else Da (l.take j) e := by
        unfold Da; rw [ht2, Ry]; split <;> rfl
       have hob : (Da (l.take j) e).obj = Ey e := rfl;have hid : (Da (l.take j) e).id = Ak e := rfl;generalize hX : Da (l.take j) e = X at *;by_cases hg : g.kind = 6 ∨ g.kind = 7;rotate_left
       · have g6 : ¬ g.kind = 6 := fun q => hg (.inl q);have g7 : ¬ g.kind = 7 := fun q => hg (.inr q);have hgo : ¬ Hz g (Ey e) (Ak e) = true := by unfold Hz; simp [hg]
         rw [if_neg hgo] at hB;simp (disch := omega) only [Eh, hX, List.length_map, he2, Ag, g6, g7, go_sem];refine Ad (j + 1) _ _ rfl (by omega) (by omega) ?_ ?_
         · simp (disch := omega) only [go_sem]
         · simp (disch := omega) only [hB, go_sem]
       have hg' := hg;rcases hg with hg6 | hg7
       · skip
         by_cases ho : Ay g = X.obj;rotate_left
         · have hp := Fp ho;have hgo : ¬ Hz g (Ey e) (Ak e) = true := by
            rw [hob] at ho; unfold Hz; simp [ho]
           rw [if_neg hgo] at hB;simp (disch := omega) only [Eh, hX, List.length_map, he2, Ag, hg6, A7, C6, Ae, Bo, hp, go_sem];refine Ad (j + 1) _ _ rfl (by omega) (by omega) ?_ ?_
           · simp (disch := omega) only [go_sem]
           · simp (disch := omega) only [hB, go_sem]
         have hp := Fo ho;have hpv : g.gone.pv = .sl g.gone.f g.gone.z (g.gone.l.map Ed) := rfl;simp (disch := omega) only [Eh, hX, List.length_map, he2, Ag, hg6, A7, C6, Ae, Bo, hp, Ga, Dk, go_sem];refine Aa (Pv g.gone X.id hevj.1 hevj.2.2.1) ?_;by_cases hin : X.id ∈ g.gone.l
         · have hgo : Hz g (Ey e) (Ak e) = true := by
            rw [hob] at ho; rw [hid] at hin; unfold Hz; simp [hg', ho, hin]
           rw [if_pos hgo] at hB;have hsp := Hb X (A8 X.gone g.rep g.seq);have hvl := Bl (A8 X.gone g.rep g.seq);simp (disch := omega) only [hin, Io, List.length_map, he2, Aw, go_sem];refine Aa (E7 _ _ _) ?_;simp (disch := omega) only [hsp, hvl, go_sem];refine Ad (j + 1) _ _ rfl (by omega) (by omega) ?_ ?_
           · simp (disch := omega) only [go_sem]
           · simp (disch := omega) only [hB, go_sem]
         · have hgo : ¬ Hz g (Ey e) (Ak e) = true := by
            rw [hid] at hin; unfold Hz; simp [hin]
           rw [if_neg hgo] at hB;simp (disch := omega) only [hin, go_sem];refine Ad (j + 1) _ _ rfl (by omega) (by omega) ?_ ?_
           · simp (disch := omega) only [go_sem]
           · simp (disch := omega) only [hB, go_sem]
       · have g6 : ¬ g.kind = 6 := by omega
         by_cases ho : Ay g = X.obj;rotate_left
         · have hp := Fp ho;have hgo : ¬ Hz g (Ey e) (Ak e) = true := by
            rw [hob] at ho; unfold Hz; simp [ho]
           rw [if_neg hgo] at hB;simp (disch := omega) only [Eh, hX, List.length_map, he2, Ag, g6, hg7, A7, C6, Ae, Bo, hp, go_sem];refine Ad (j + 1) _ _ rfl (by omega) (by omega) ?_ ?_
           · simp (disch := omega) only [go_sem]
           · simp (disch := omega) only [hB, go_sem]
         have hp := Fo ho;have hpv : g.gone.pv = .sl g.gone.f g.gone.z (g.gone.l.map Ed) := rfl;simp (disch := omega) only [Eh, hX, List.length_map, he2, Ag, g6, hg7, A7, C6, Ae, Bo, hp, Ga, Dk, go_sem];refine Aa (Pv g.gone X.id hevj.1 hevj.2.2.1) ?_;by_cases hin : X.id ∈ g.gone.l
         · have hgo : Hz g (Ey e) (Ak e) = true := by
            rw [hob] at ho; rw [hid] at hin; unfold Hz; simp [hg', ho, hin]
           rw [if_pos hgo] at hB;have hsp := Hb X (A8 X.gone g.rep g.seq);have hvl := Bl (A8 X.gone g.rep g.seq);simp (disch := omega) only [hin, Io, List.length_map, he2, Aw, go_sem];refine Aa (E7 _ _ _) ?_;simp (disch := omega) only [hsp, hvl, go_sem];refine Ad (j + 1) _ _ rfl (by omega) (by omega) ?_ ?_
           · simp (disch := omega) only [go_sem]
           · simp (disch := omega) only [hB, go_sem]
         · have hgo : ¬ Hz g (Ey e) (Ak e) = true := by
            rw [hid] at hin; unfold Hz; simp [hin]
           rw [if_neg hgo] at hB;simp (disch := omega) only [hin, go_sem];refine Ad (j + 1) _ _ rfl (by omega) (by omega) ?_ ?_
           · simp (disch := omega) only [go_sem]
           · simp (disch := omega) only [hB, go_sem]
     · obtain rfl : j = l.length := by omega
       have htk : l.take l.length = l := List.take_length;simp (disch := omega) only [Eh, List.length_map, htk, Fy, go_sem];refine Aa (Abg (l := C2 l (l.take k)) (Da l e) rfl rfl (by omega)) ?_;simp (disch := omega) only [go_sem];refine ⟨k + 1, by omega, by omega, D7 40 rfl (D6 99 40 (by decide) rfl (Ah ?_ ?_))⟩
       · simp (disch := omega) only [go_sem]
       · simp (disch := omega) only [hsn, go_sem]
 · obtain rfl : k = l.length := by omega
   have htk : l.take l.length = l := List.take_length;simp (disch := omega) only [Yy, List.length_map, htk, go_sem]
theorem A2z {x y : SV} {f g : Bool} {l : List Ver} {bs : List Bn} {v : Ver} {h d} (hx : Cw h [x, y, .vec 11 (Bf v)] = [.pv (.sl f 11 (l.map Bf)), .pv (.sl g 2 (bs.map Ed)), .vec 11 (Bf v)]) (hl : Bj [x, y, .vec 11 (Bf v)] = true)
 (hs : Cu l) (hn : l.length ≤ 900) (hbn : bs.length ≤ 900) (hm : ¬ Di l bs) (ho : Bp l v.rep v.seq = none) :
 FunOk Tryz.prog 134 [x, y, .vec 11 (Bf v)] h d (.tup [.os d, .pv (.i .i64 0)]) [.new d (.row 11 ((Fk l bs v).map Bf))] := by
 refine As7 Af fn134 (by simp) hl (.inr (Yw _)) rfl fun F => ?_;rw [hx];exact Ava hs hn hbn (fun h => absurd h hm) (fun _ h => by rw [ho] at h; cases h) (fun _ _ g n hg => ⟨n, rfl, hg⟩)
def Pk (e : Evt) : Bool := decide (e.kind = 3 ∨ e.kind = 4 ∨ e.kind = 5)
def Zt (g : Evt) (obj id : Bn) : Bool := Pk g && (decide (Ay g = obj) && decide (id ∈ g.base.l))
def gvG (l : List Evt) (obj id : Bn) : Vc := l.foldl (fun a g => if Zt g obj id = true then A8 a g.rep g.seq else a) fun _ => 0
theorem Aet (l : List Evt) (g : Evt) (obj id : Bn) : gvG (l ++ [g]) obj id = if Zt g obj id = true then A8 (gvG l obj id) g.rep g.seq else gvG l obj id := by simp [gvG]
noncomputable def G1 (l m : List Evt) (e : Evt) : Ver := ⟨e.rep, e.seq, De l l.length (Ak e), gvG m (Ay e) (Ak e)⟩
noncomputable def Cy (l : List Evt) (obj : Bn) (m : List Evt) : List Ver := m.foldl (fun out e => if Pk e = true ∧ Ay e = obj then Fk out [] (G1 l l e) else out) []
theorem Pn (l : List Evt) (obj : Bn) (m : List Evt) (e : Evt) : Cy l obj (m ++ [e]) = if Pk e = true ∧ Ay e = obj then Fk (Cy l obj m) [] (G1 l l e) else Cy l obj m := by simp [Cy]
theorem Al3 {l : List Ver} {v x : Ver} : x ∈ Fk l [] v ↔ x = v ∨ x ∈ l := by
 unfold Fk; rw [Ok];simp only [List.mem_append, List.mem_cons];have : x ∈ l ↔ x ∈ l.take (Qd l v.rep v.seq 0).1 ∨ x ∈ l.drop (Qd l v.rep v.seq 0).1 := by
  rw [← List.mem_append, List.take_append_drop]
 rw [this];constructor
 · rintro (h | h | h)
   · exact .inr (.inl h)
   · exact .inl h
   · exact .inr (.inr h)
 · rintro (h | h | h)
   · exact .inr (.inl h)
   · exact .inl h
   · exact .inr (.inr h)
theorem Aoc (l : List Ver) (v : Ver) : (Fk l [] v).length = l.length + 1 := by
 unfold Fk; rw [Ok];simp only [List.length_append, List.length_take, List.length_cons, List.length_drop]; omega
theorem Acl {l : List Ver} {v : Ver} (hs : Cu l) (hn : Bp l v.rep v.seq = none) : Cu (Fk l [] v) := by
 unfold Fk; rw [Ok];have hfalse : Qd l v.rep v.seq 0 = ((Qd l v.rep v.seq 0).1, false) := by
  rcases h : Qd l v.rep v.seq 0 with ⟨i, b⟩
  cases b with
  | false => rfl
  | true =>
    obtain ⟨_, u, _, _, h4⟩ := Iw h;rw [hn] at h4; cases h4
 obtain ⟨_, _, _, _, h5, h6⟩ := H8 hs hfalse;generalize (Qd l v.rep v.seq 0).1 = p at *;simp only [Nat.sub_zero] at h5 h6;refine List.pairwise_append.2 ⟨hs.sublist (List.take_sublist _ _), List.pairwise_cons.2 ⟨fun u hu => h6 u hu, hs.sublist (List.drop_sublist _ _)⟩, fun a ha b hb => ?_⟩;rcases List.mem_cons.1 hb with rfl | hb
 · exact h5 a ha
 · have := h5 a ha;exact P3 this (h6 b hb)
theorem N7 {l : List Evt} {obj : Bn} {v : Ver} : ∀ (n : Nat) (m : List Evt), m.length = n → (v ∈ Cy l obj m ↔ ∃ e ∈ m, (Pk e = true ∧ Ay e = obj) ∧ v = G1 l l e)
 | 0, m, h => by obtain rfl := List.eq_nil_of_length_eq_zero h; simp [Cy]
 | n + 1, m, h => by
   have hne : m ≠ [] := fun e => by subst e; simp at h
   have e1 := (List.dropLast_concat_getLast hne).symm;have ih := N7 (l := l) (obj := obj) (v := v) n m.dropLast (by simp [h]);rw [e1, Pn];generalize m.getLast hne = e at *;generalize m.dropLast = m' at *;split
   · rename_i hc;rw [Al3, ih];constructor
     · rintro (rfl | ⟨f, h1, h2⟩)
       · exact ⟨e, by simp, hc, rfl⟩
       · exact ⟨f, by simp [h1], h2⟩
     · rintro ⟨f, h1, h2, h3⟩;rcases List.mem_append.1 h1 with h1 | h1
       · exact .inr ⟨f, h1, h2, h3⟩
       · rw [List.mem_singleton] at h1; subst h1; exact .inl h3
   · rename_i hc;rw [ih];constructor
     · rintro ⟨f, h1, h2⟩; exact ⟨f, by simp [h1], h2⟩
     · rintro ⟨f, h1, h2, h3⟩;rcases List.mem_append.1 h1 with h1 | h1
       · exact ⟨f, h1, h2, h3⟩
       · rw [List.mem_singleton] at h1; subst h1; exact absurd h2 hc
def NodE (l : List Evt) : Prop := (l.map Ak).Nodup
theorem Yv {l m : List Evt} {obj : Bn} {e : Evt} (hn : NodE (m ++ [e])) : Bp (Cy l obj m) e.rep e.seq = none := by
 rw [P4];intro v hv ⟨h1, h2⟩;obtain ⟨f, hf, _, rfl⟩ := (N7 m.length m rfl).1 hv;have : Ak f = Ak e := Prod.ext h1 h2;unfold NodE at hn;rw [List.map_append, List.nodup_append] at hn;exact hn.2.2 (Ak f) (List.mem_map_of_mem hf) (Ak e) (by simp) this
theorem NodE.take {l : List Evt} (h : NodE l) (k : Nat) : NodE (l.take k) := by
 unfold NodE at *; rw [List.map_take]; exact h.sublist (List.take_sublist _ _)
theorem Ja {l : List Evt} {obj : Bn} : ∀ (n : Nat) (m : List Evt), m.length = n → NodE m → Cu (Cy l obj m) ∧ (Cy l obj m).length ≤ n
 | 0, m, h, _ => by obtain rfl := List.eq_nil_of_length_eq_zero h; exact ⟨List.Pairwise.nil, by simp [Cy]⟩
 | n + 1, m, h, hn => by
   have hne : m ≠ [] := fun e => by subst e; simp at h
   have e1 := (List.dropLast_concat_getLast hne).symm;have hn' : NodE m.dropLast := by unfold NodE at *; rw [List.map_dropLast]; exact hn.sublist (List.dropLast_sublist _)
   obtain ⟨h1, h2⟩ := Ja (l := l) (obj := obj) n m.dropLast (by simp [h]) hn';rw [e1] at hn ⊢;rw [Pn];split
   · exact ⟨Acl h1 (Yv hn), by rw [Aoc]; omega⟩
   · exact ⟨h1, by omega⟩
theorem Axb {l : List Ver} {v : Ver} (hs : Cu l) (hn : l.length ≤ 900) (ho : Bp l v.rep v.seq = none) {h d} (hh : h 40 = some (.row 11 (l.map Bf))) :
 FunOk Tryz.prog 134 [.os 40, .pv (.sl true 0 []), .vec 11 (Bf v)] h d (.tup [.os d, .pv (.i .i64 0)]) [.new d (.row 11 ((Fk l [] v).map Bf))] := by
 refine FunOk.imp (args' := [.os 40, .pv (.sl true 2 []), .vec 11 (Bf v)]) ?_ ⟨Imp.refl _, Tf (Hj id (.inl rfl) (.refl _)), Imp.refl _, trivial⟩ (by simp [A3, tn]);exact A2z (f := false) (g := true) (l := l) (bs := []) (by simp only [Cw, Lc, hh]; rfl) rfl hs hn (by simp) (fun ⟨b, hb, _⟩ => by simp at hb) ho
structure EvsOk (l : List Evt) (rk : Evt → Nat) : Prop where
 len : l.length ≤ 400
 nod : NodE l
 ev : ∀ e ∈ l, ev e ∧ e.data.length ≤ 1000
 grd : Grd l rk
 rk : ∀ e ∈ l, rk e < l.length
noncomputable def Ao4 (f : Bool) (l : List Evt) (o : Bn) (k : Nat) : FS := mk [(6, .pv (.i .i64 k)), (5, .os 40), (0, .pv (.sl f 21 (l.map Bc))), (3, .p 3 0)] [(3, some (.var (.vec 2 [.i .i64 o.1, .i .u32 o.2]))), (40, some (.row 11 ((Cy l o (l.take k)).map Bf)))]
noncomputable def Ac6 (f : Bool) (l : List Evt) (o : Bn) (k : Nat) (e : Evt) (j : Nat) : FS := mk [(8, .pv (.i .i64 j)), (6, .pv (.i .i64 k)), (5, .os 40), (7, .p 7 0), (0, .pv (.sl f 21 (l.map Bc))), (3, .p 3 0)] [(7, some (.var (.vec 11 (Bf (G1 l (l.take j) e))))), (3, some (.var (.vec 2 [.i .i64 o.1, .i .u32 o.2]))), (40, some (.row 11 ((Cy l o (l.take k)).map Bf)))]
theorem Aos (r : Int) (q : Nat) (s : List UInt8) (g : Vc) : Imp (.agg [.vec 2 [.i .i64 r, .i .u32 q], .pv (.s s), .vec 8 (vE g)]) (.vec 11 (Bf ⟨r, q, s, g⟩)) := Gy (by rfl) (Hh _)
set_option maxHeartbeats 8000000 in
theorem W2 {x : SV} {f : Bool} {l : List Evt} {rk : Evt → Nat} (o : Bn) {h d} (hx : Cw h [x, .vec 2 [.i .i64 o.1, .i .u32 o.2]] = [.pv (.sl f 21 (l.map Bc)), .vec 2 [.i .i64 o.1, .i .u32 o.2]]) (hl : Bj [x, .vec 2 [.i .i64 o.1, .i .u32 o.2]] = true) (hE : EvsOk l rk) : FunOk Tryz.prog 101 [x, .vec 2 [.i .i64 o.1, .i .u32 o.2]] h d (.pv (.sl false 11 ((Cy l o l).map Bf))) [] := by
 refine Zw Af fn101 (by simp) hl (Yw _) fun F => ?_;rw [hx];have hn := hE.len;simp (disch := omega) only [ir101, go_sem];refine A0 Af (Ao4 f l o) (fun k => k ≤ l.length) (fun k => l.length - k) 0 (by simp) (Pl 5 40 11 rfl (by omega) (Ah ?_ ?_)) fun k hk => ?_
 · simp (disch := omega) only [go_sem]
 · simp (disch := omega) only [Cy, List.take_zero, List.foldl_nil, List.map_nil, go_sem]
 by_cases hlt : k < l.length
 · have hx : l[k]? = some l[k] := List.getElem?_eq_getElem hlt;have he : (l.map Bc)[k]? = some (Bc l[k]) := by rw [List.getElem?_map, hx]; rfl
   have ht := Cz hx;have hsn := Pn l o (l.take k) l[k];have hnd := hE.nod.take (k + 1);rw [ht] at hnd;rw [← ht] at hsn;have hmem := List.getElem_mem hlt;generalize l[k] = e at *;obtain ⟨hso, hle⟩ := Ja (l := l) (obj := o) _ (l.take k) rfl (hE.nod.take k);have hle' : (l.take k).length ≤ 400 := by simp; omega
   have hnew := Yv (l := l) (obj := o) hnd;have hwb : Pk e = decide (e.kind = 3 ∨ e.kind = 4 ∨ e.kind = 5) := rfl;by_cases hw : Pk e = true;rotate_left
   · rw [if_neg (fun q => hw q.1)] at hsn;have hw' : Pk e = false := by simpa using hw
     simp (disch := omega) only [Ao4, List.length_map, he, Bh, go_sem];refine Aa (K8 e) ?_;rw [← hwb, hw'];simp (disch := omega) only [go_sem];refine Ad (k + 1) _ _ rfl (by omega) (by omega) ?_ ?_
     · simp (disch := omega) only [go_sem]
     · simp (disch := omega) only [hsn, go_sem]
   by_cases ho : Ay e = o;rotate_left
   · rw [if_neg (fun q => ho q.2)] at hsn;have hp := Fp ho;simp (disch := omega) only [Ao4, List.length_map, he, Bh, go_sem];refine Aa (K8 e) ?_;rw [← hwb, hw];simp (disch := omega) only [he, A7, Ae, Bo, hp, List.length_map, go_sem];refine Ad (k + 1) _ _ rfl (by omega) (by omega) ?_ ?_
     · simp (disch := omega) only [go_sem]
     · simp (disch := omega) only [hsn, go_sem]
   rw [if_pos ⟨hw, ho⟩] at hsn;have hp := Fo ho;simp (disch := omega) only [Ao4, List.length_map, he, Bh, go_sem];refine Aa (K8 e) ?_;rw [← hwb, hw];simp (disch := omega) only [he, A7, Ae, Bo, hp, List.length_map, Aw, go_sem];refine Aa (Ad2 (rk := rk) hE.grd (by omega) hE.ev l.length (Ak e) (fun e' he' => hE.rk e' (List.mem_of_find?_eq_some he')) _ f _ _ rfl rfl) ?_;simp (disch := omega) only [go_sem];refine A0 Af (Ac6 f l o k e) (fun j => j ≤ l.length) (fun j => l.length - j) 0 (by simp) (Ah ?_ ?_) fun j hj => ?_
   · simp (disch := omega) only [go_sem]
   · simp (disch := omega) only [G1, gvG, List.take_zero, List.foldl_nil, go_sem];exact Aos _ _ _ _
   by_cases hjl : j < l.length
   · have hx2 : l[j]? = some l[j] := List.getElem?_eq_getElem hjl;have he2 : (l.map Bc)[j]? = some (Bc l[j]) := by rw [List.getElem?_map, hx2]; rfl
     have ht2 := Cz hx2;have hevj := (hE.ev _ (List.getElem_mem hjl)).1;generalize l[j] = g at *;have hB : G1 l (l.take (j + 1)) e = if Zt g (Ay e) (Ak e) = true then { G1 l (l.take j) e with gone := A8 (G1 l (l.take j) e).gone g.rep g.seq } else G1 l (l.take j) e := by
      unfold G1; rw [ht2, Aet]; split <;> rfl
     have hid : ((G1 l (l.take j) e).rep, (G1 l (l.take j) e).seq) = Ak e := rfl;generalize hX : G1 l (l.take j) e = X at *;have hwg : Pk g = decide (g.kind = 3 ∨ g.kind = 4 ∨ g.kind = 5) := rfl;by_cases hg : Pk g = true;rotate_left
     · have hgo : ¬ Zt g (Ay e) (Ak e) = true := by unfold Zt; simp [hg]
       have hg' : Pk g = false := by simpa using hg
       rw [if_neg hgo] at hB;simp (disch := omega) only [Ac6, hX, List.length_map, he2, Bh, go_sem];refine Aa (K8 g) ?_;rw [← hwg, hg'];simp (disch := omega) only [go_sem];refine Ad (j + 1) _ _ rfl (by omega) (by omega) ?_ ?_
       · simp (disch := omega) only [go_sem]
       · simp (disch := omega) only [hB, go_sem]
     by_cases hog : Ay g = o;rotate_left
     · have hp2 := Fp hog;have hgo : ¬ Zt g (Ay e) (Ak e) = true := by rw [← ho] at hog; unfold Zt; simp [hog]
       rw [if_neg hgo] at hB;simp (disch := omega) only [Ac6, hX, List.length_map, he2, Bh, go_sem];refine Aa (K8 g) ?_;rw [← hwg, hg];simp (disch := omega) only [List.length_map, he2, A7, Ae, Bo, hp2, go_sem];refine Ad (j + 1) _ _ rfl (by omega) (by omega) ?_ ?_
       · simp (disch := omega) only [go_sem]
       · simp (disch := omega) only [hB, go_sem]
     have hp2 := Fo hog;have hpv : g.base.pv = .sl g.base.f g.base.z (g.base.l.map Ed) := rfl;simp (disch := omega) only [Ac6, hX, List.length_map, he2, Bh, go_sem];refine Aa (K8 g) ?_;rw [← hwg, hg];simp (disch := omega) only [List.length_map, he2, A7, Ae, Bo, hp2, Fh, C1, go_sem];refine Aa (Pv g.base (X.rep, X.seq) hevj.2.1 hevj.2.2.2.1) ?_;by_cases hin : (X.rep, X.seq) ∈ g.base.l
     · have hgo : Zt g (Ay e) (Ak e) = true := by
        rw [hid] at hin; unfold Zt; simp [hg, hog, ho, hin]
       rw [if_pos hgo] at hB;have hsp := Js X (A8 X.gone g.rep g.seq);have hvl := Bl (A8 X.gone g.rep g.seq);simp (disch := omega) only [hin, Nm, List.length_map, he2, Aw, go_sem];refine Aa (E7 _ _ _) ?_;simp (disch := omega) only [hsp, hvl, go_sem];refine Ad (j + 1) _ _ rfl (by omega) (by omega) ?_ ?_
       · simp (disch := omega) only [go_sem]
       · simp (disch := omega) only [hB, go_sem]
     · have hgo : ¬ Zt g (Ay e) (Ak e) = true := by
        rw [hid] at hin; unfold Zt; simp [hin]
       rw [if_neg hgo] at hB;simp (disch := omega) only [hin, go_sem];refine Ad (j + 1) _ _ rfl (by omega) (by omega) ?_ ?_
       · simp (disch := omega) only [go_sem]
       · simp (disch := omega) only [hB, go_sem]
   · obtain rfl : j = l.length := by omega
     have htk : l.take l.length = l := List.take_length;simp (disch := omega) only [Ac6, List.length_map, htk, L6, go_sem];refine Aa (Axb (l := Cy l o (l.take k)) (v := G1 l l e) hso (by omega) hnew rfl) ?_;simp (disch := omega) only [go_sem];refine ⟨k + 1, by omega, by omega, D7 40 rfl (D6 85 40 (by decide) rfl (Ah ?_ ?_))⟩
     · simp (disch := omega) only [go_sem]
     · simp (disch := omega) only [hsn, go_sem]
 · obtain rfl : k = l.length := by omega
   have htk : l.take l.length = l := List.take_length;simp (disch := omega) only [Ao4, List.length_map, htk, go_sem]
mutual
theorem Adk {π : Nat → Nat} : ∀ {x : SV}, x.closed = true → x.rn π = x
 | .pv _, _ => rfl
 | .vec _ _, _ => rfl
 | .pi _ _ _ _, _ => rfl
 | .dead, _ => rfl
 | .agg l, h => by simp only [SV.closed] at h; simp only [SV.rn, Sq h]
 | .tup l, h => by simp only [SV.closed] at h; simp only [SV.rn, Sq h]
 | .fn f l, h => by simp only [SV.closed] at h; simp only [SV.rn, Sq h]
 | .p _ _, h => by simp [SV.closed] at h
 | .ps _ _, h => by simp [SV.closed] at h
 | .pr _ _ _ _, h => by simp [SV.closed] at h
 | .os _, h => by simp [SV.closed] at h
 | .ov _ _ _ _, h => by simp [SV.closed] at h
theorem Sq {π : Nat → Nat} : ∀ {l : List SV}, SV.closedL l = true → SV.rnL π l = l
 | [], _ => rfl
 | x :: l, h => by
   simp only [SV.closedL, Bool.and_eq_true] at h;simp only [SV.rnL, Adk h.1, Sq h.2]
end
mutual
theorem A58 : ∀ {x : SV}, x.closed = true → tn x = []
 | .pv _, _ => rfl
 | .vec _ _, _ => rfl
 | .pi _ _ _ _, _ => rfl
 | .dead, _ => rfl
 | .agg l, h => by simp only [SV.closed] at h; simp only [tn, Ob h]
 | .tup l, h => by simp only [SV.closed] at h; simp only [tn, Ob h]
 | .fn f l, h => by simp only [SV.closed] at h; simp only [tn, Ob h]
 | .p _ _, h => by simp [SV.closed] at h
 | .ps _ _, h => by simp [SV.closed] at h
 | .pr _ _ _ _, h => by simp [SV.closed] at h
 | .os _, h => by simp [SV.closed] at h
 | .ov _ _ _ _, h => by simp [SV.closed] at h
theorem Ob : ∀ {l : List SV}, SV.closedL l = true → A3 l = []
 | [], _ => rfl
 | x :: l, h => by
   simp only [SV.closedL, Bool.and_eq_true] at h;simp only [A3, A58 h.1, Ob h.2, List.append_nil]
end
theorem Air (a m : Nat) : sw1 a m a = m := if_pos rfl
theorem FunOk.io {P : Program} {f : Nat} {a : List SV} {c c' x : SV} (hf : ∀ h d, h 900 = some (.var c) → FunOk P f (.p 900 0 :: a) h d x [.upd 900 (.var c')]) (ha : SV.closedL a = true) (hx : x.closed = true) (hc : c.closed = true) (hc' : c'.closed = true) {g : Nat} {h : Nat → Option Blk} {d : Nat} (hg : h g = some (.var c)) :
 FunOk P f (.p g 0 :: a) h d x [.upd g (.var c')] := by
 have h1 := (hf (fun k => h (sw1 900 g k)) d (by show h (sw1 900 g 900) = _; rw [Air]; exact hg)).rn (π := sw1 900 g) (U2 900 g) (d' := d);simp only [SV.rnL, SV.rn, HU.rn, Blk.rn, List.map_cons, List.map_nil, Air, Sq ha, Adk hx, Adk hc'] at h1;refine h1.at fun n hn => ?_;simp only [A3, tn, Ob ha, List.append_nil, List.mem_singleton] at hn;subst hn;simp only [U2, hg, Option.map_some, Blk.rn, Adk hc]
theorem FunOk.quiet {P : Program} {f : Nat} {args : List SV} {h : Nat → Option Blk} {d g : Nat} {x : SV} {blk : Blk} (hf : FunOk P f args h d x [.upd g blk]) (hg : h g = some blk) (hin : g ∈ A3 args) : FunOk P f args h d x [] :=
 ⟨hf.1, fun F N ρ s a w hR hh vs hc => by
  have hs : s.h g = some blk := (hh g hin).trans hg;have e : s.hup [.upd g blk] = s := FS.ext' (fun _ => rfl) fun n => by
   simp only [FS.hup, FS.seth];split
   · rename_i e; rw [e]; exact hs.symm
   · rfl
  have := hf.2 F N ρ s a w hR hh vs hc;rw [e] at this;exact this⟩
theorem FunOk.ioRow {P : Program} {f : Nat} {a : List SV} {sz : Nat} {es : List (List PV)} {x : SV} (hf : ∀ h d, h 900 = some (.row sz es) → FunOk P f (.os 900 :: a) h d x [.upd 900 (.row sz es)]) (ha : SV.closedL a = true) (hx : x.closed = true) {g : Nat} {h : Nat → Option Blk} {d : Nat} (hg : h g = some (.row sz es)) :
 FunOk P f (.os g :: a) h d x [] := by
 have h1 := (hf (fun k => h (sw1 900 g k)) d (by show h (sw1 900 g 900) = _; rw [Air]; exact hg)).rn (π := sw1 900 g) (U2 900 g) (d' := d);simp only [SV.rnL, SV.rn, HU.rn, Blk.rn, List.map_cons, List.map_nil, Air, Sq ha, Adk hx] at h1;refine FunOk.quiet (g := g) (blk := .row sz es) (h1.at fun n hn => ?_) hg (by simp [A3, tn]);simp only [A3, tn, Ob ha, List.append_nil, List.mem_singleton] at hn;subst hn;simp only [U2, hg, Option.map_some, Blk.rn]
def D8 (e : Evt) (o : Obj) (f : Evt) : Obj :=
 if Ay f = Ak e then
  if f.kind = 7 then (if Cl o.last.1 o.last.2 f.rep f.seq = true then { o with last := Ak f, name := f.name } else o)
  else if f.kind = 6 then { o with seen := Cp o.seen (A8 f.dep f.rep f.seq) } else o
 else o
noncomputable def C8 (l m : List Evt) (e : Evt) : Obj := m.foldl (D8 e) ⟨Ak e, decide (e.kind = 2), Ak e, e.name, fun _ => 0, Cy l (Ak e) l⟩
theorem Jo (l m : List Evt) (e f : Evt) : C8 l (m ++ [f]) e = D8 e (C8 l m e) f := by simp [C8]
def Gg : SV := .agg [.pv (.i .i64 0), .pv (.i .u32 0), .pv (.b false), .pv (.i .i64 0), .pv (.i .u32 0), .pv (.s []), .vec 8 (vE fun _ => 0), .pv (.sl true 0 [])]
theorem Aji (o : Obj) : Imp (.agg [.vec 2 [.i .i64 o.id.1, .i .u32 o.id.2], .pv (.b o.dir), .vec 2 [.i .i64 o.last.1, .i .u32 o.last.2], .pv (.s o.name), .vec 8 (vE o.seen), .pv (.sl false 11 (o.vers.map Bf))]) (.vec 15 (Aq o)) := Gy (by rfl) (E8 _)
noncomputable def Wb (f : Bool) (l : List Evt) (e : Evt) (k : Nat) : FS := mk [(6, .pv (.i .i64 k)), (0, .pv (.sl f 21 (l.map Bc))), (3, .p 3 0), (4, .p 4 0), (5, .p 5 0)] [(3, some (.var (.vec 21 (Bc e)))), (4, some (.var Gg)), (5, some (.var (.vec 15 (Aq (C8 l (l.take k) e)))))]
noncomputable def Wa (f : Bool) (l : List Evt) (e : Evt) (k : Nat) : FS := mk [(6, .pv (.i .i64 k)), (0, .os 900), (3, .p 3 0), (4, .p 4 0), (5, .p 5 0), (1000000, .os 900)] [(3, some (.var (.vec 21 (Bc e)))), (4, some (.var Gg)), (5, some (.var (.vec 15 (Aq (C8 l (l.take k) e))))), (900, some (.row 21 (l.map Bc)))]
set_option maxHeartbeats 8000000 in
theorem Zc {f : Bool} {l : List Evt} {rk : Evt → Nat} (e : Evt) {h d} (hE : EvsOk l rk) : FunOk Tryz.prog 60 [.pv (.sl f 21 (l.map Bc)), .vec 21 (Bc e)] h d (.vec 15 (Aq (C8 l l e))) [] := by
 refine Al Af fn60 (by simp) rfl rfl fun F => ?_;have hn := hE.len;simp (disch := omega) only [ir60, Aw, Ag, Du, Blk.ptr, go_sem];refine Aa (W2 (rk := rk) (l := l) (Ak e) rfl rfl hE) ?_;simp (disch := omega) only [go_sem];refine A0 Af (Wb f l e) (fun k => k ≤ l.length) (fun k => l.length - k) 0 (by simp) (Ah ?_ ?_) fun k hk => ?_
 · simp (disch := omega) only [go_sem]
 · simp (disch := omega) only [C8, List.take_zero, List.foldl_nil, Gg, go_sem];exact Aji ⟨Ak e, decide (e.kind = 2), Ak e, e.name, fun _ => 0, Cy l (Ak e) l⟩
 by_cases hlt : k < l.length
 · have hx : l[k]? = some l[k] := List.getElem?_eq_getElem hlt;have he : (l.map Bc)[k]? = some (Bc l[k]) := by rw [List.getElem?_map, hx]; rfl
   have ht := Cz hx;have hsn := Jo l (l.take k) e l[k];rw [← ht] at hsn;generalize l[k] = g at *;generalize hX : C8 l (l.take k) e = X at *;by_cases ho : Ay g = Ak e;rotate_left
   · have hp := Fp ho;have hs : D8 e X g = X := if_neg ho;rw [hs] at hsn;simp (disch := omega) only [Wb, hX, List.length_map, he, A7, Aw, Ae, Bo, hp, go_sem];refine Ad (k + 1) _ _ rfl (by omega) (by omega) ?_ ?_
     · simp (disch := omega) only [go_sem]
     · simp (disch := omega) only [hsn, Gg, go_sem]
   have hp := Fo ho;by_cases h7 : g.kind = 7
   · by_cases hl7 : Cl X.last.1 X.last.2 g.rep g.seq = true
     · have hs : D8 e X g = { X with last := Ak g, name := g.name } := by unfold D8; rw [if_pos ho, if_pos h7, if_pos hl7]
       rw [hs] at hsn;have hsp := Wh X (Ak g);have hsp2 := Wg { X with last := Ak g } g.name;simp (disch := omega) only [Wb, hX, List.length_map, he, A7, Aw, Ae, Bo, hp, Ag, h7, J0, go_sem];refine Aa (F8 X.last.1 X.last.2 g.rep g.seq) ?_;simp (disch := omega) only [hl7, go_sem];refine Lm ?_;simp (disch := omega) only [List.length_map, he, Aw, Du, hsp, hsp2, Ag, h7, go_sem];refine Ad (k + 1) _ _ rfl (by omega) (by omega) ?_ ?_
       · simp (disch := omega) only [go_sem]
       · simp (disch := omega) only [hsn, Gg, go_sem]
     · have hs : D8 e X g = X := by unfold D8; rw [if_pos ho, if_pos h7, if_neg hl7]
       rw [hs] at hsn;have hl7' : Cl X.last.1 X.last.2 g.rep g.seq = false := by simpa using hl7
       simp (disch := omega) only [Wb, hX, List.length_map, he, A7, Aw, Ae, Bo, hp, Ag, h7, J0, go_sem];refine Aa (F8 X.last.1 X.last.2 g.rep g.seq) ?_;simp (disch := omega) only [hl7', List.length_map, he, Ag, h7, go_sem];refine Ad (k + 1) _ _ rfl (by omega) (by omega) ?_ ?_
       · simp (disch := omega) only [go_sem]
       · simp (disch := omega) only [hsn, Gg, go_sem]
   by_cases h6 : g.kind = 6
   · have hs : D8 e X g = { X with seen := Cp X.seen (A8 g.dep g.rep g.seq) } := by unfold D8; rw [if_pos ho, if_neg h7, if_pos h6]
     rw [hs] at hsn;have hsp := Wf X (Cp X.seen (A8 g.dep g.rep g.seq));have hvl := Bl (Cp X.seen (A8 g.dep g.rep g.seq));simp (disch := omega) only [Wb, hX, List.length_map, he, A7, Aw, Ae, Bo, hp, Ag, h7, h6, P2, Fa, go_sem];refine Aa (E7 _ _ _) ?_;simp (disch := omega) only [go_sem];refine Aa (U9 _ _) ?_;simp (disch := omega) only [hsp, hvl, go_sem];refine Ad (k + 1) _ _ rfl (by omega) (by omega) ?_ ?_
     · simp (disch := omega) only [go_sem]
     · simp (disch := omega) only [hsn, Gg, go_sem]
   · have hs : D8 e X g = X := by unfold D8; rw [if_pos ho, if_neg h7, if_neg h6]
     rw [hs] at hsn;simp (disch := omega) only [Wb, hX, List.length_map, he, A7, Aw, Ae, Bo, hp, Ag, h7, h6, go_sem];refine Ad (k + 1) _ _ rfl (by omega) (by omega) ?_ ?_
     · simp (disch := omega) only [go_sem]
     · simp (disch := omega) only [hsn, Gg, go_sem]
 obtain rfl : k = l.length := by omega
 have htk : l.take l.length = l := List.take_length;have hol := E8 (C8 l l e);simp (disch := omega) only [Wb, Gg, List.length_map, htk, Gk, hol, go_sem]
set_option maxHeartbeats 8000000 in
theorem Agj {l : List Evt} {rk : Evt → Nat} (e : Evt) {h d} (hE : EvsOk l rk) (hg : h 900 = some (.row 21 (l.map Bc))) : FunOk Tryz.prog 60 [.os 900, .vec 21 (Bc e)] h d (.vec 15 (Aq (C8 l l e))) [.upd 900 (.row 21 (l.map Bc))] := by
 refine Gc (g := 900) Af fn60 (by simp) (by simp [A3, tn]) (by simp [A3, tn]) hg rfl (by simp [Blk.ptr, SV.kill]) rfl (fun _ => rfl) fun F => ?_;obtain ⟨f, hf⟩ : ∃ f : Bool, f = false := ⟨_, rfl⟩
 have hn := hE.len;simp (disch := omega) only [ir60, Aw, Ag, Du, Blk.ptr, go_sem];refine Aa (W2 (rk := rk) (l := l) (Ak e) rfl rfl hE) ?_;simp (disch := omega) only [go_sem];refine A0 Af (Wa f l e) (fun k => k ≤ l.length) (fun k => l.length - k) 0 (by simp) (Ah ?_ ?_) fun k hk => ?_
 · simp (disch := omega) only [go_sem]
 · simp (disch := omega) only [C8, List.take_zero, List.foldl_nil, Gg, go_sem];exact Aji ⟨Ak e, decide (e.kind = 2), Ak e, e.name, fun _ => 0, Cy l (Ak e) l⟩
 by_cases hlt : k < l.length
 · have hx : l[k]? = some l[k] := List.getElem?_eq_getElem hlt;have he : (l.map Bc)[k]? = some (Bc l[k]) := by rw [List.getElem?_map, hx]; rfl
   have ht := Cz hx;have hsn := Jo l (l.take k) e l[k];rw [← ht] at hsn;generalize l[k] = g at *;generalize hX : C8 l (l.take k) e = X at *;by_cases ho : Ay g = Ak e;rotate_left
   · have hp := Fp ho;have hs : D8 e X g = X := if_neg ho;rw [hs] at hsn;simp (disch := omega) only [Wa, hX, List.length_map, he, A7, Aw, Ae, Bo, hp, go_sem];refine Ad (k + 1) _ _ rfl (by omega) (by omega) ?_ ?_
     · simp (disch := omega) only [go_sem]
     · simp (disch := omega) only [hsn, Gg, go_sem]
   have hp := Fo ho;by_cases h7 : g.kind = 7
   · by_cases hl7 : Cl X.last.1 X.last.2 g.rep g.seq = true
     · have hs : D8 e X g = { X with last := Ak g, name := g.name } := by unfold D8; rw [if_pos ho, if_pos h7, if_pos hl7]
       rw [hs] at hsn;have hsp := Wh X (Ak g);have hsp2 := Wg { X with last := Ak g } g.name;simp (disch := omega) only [Wa, hX, List.length_map, he, A7, Aw, Ae, Bo, hp, Ag, h7, J0, go_sem];refine Aa (F8 X.last.1 X.last.2 g.rep g.seq) ?_;simp (disch := omega) only [hl7, go_sem];refine Lm ?_;simp (disch := omega) only [List.length_map, he, Aw, Du, hsp, hsp2, Ag, h7, go_sem];refine Ad (k + 1) _ _ rfl (by omega) (by omega) ?_ ?_
       · simp (disch := omega) only [go_sem]
       · simp (disch := omega) only [hsn, Gg, go_sem]
     · have hs : D8 e X g = X := by unfold D8; rw [if_pos ho, if_pos h7, if_neg hl7]
       rw [hs] at hsn;have hl7' : Cl X.last.1 X.last.2 g.rep g.seq = false := by simpa using hl7
       simp (disch := omega) only [Wa, hX, List.length_map, he, A7, Aw, Ae, Bo, hp, Ag, h7, J0, go_sem];refine Aa (F8 X.last.1 X.last.2 g.rep g.seq) ?_;simp (disch := omega) only [hl7', List.length_map, he, Ag, h7, go_sem];refine Ad (k + 1) _ _ rfl (by omega) (by omega) ?_ ?_
       · simp (disch := omega) only [go_sem]
       · simp (disch := omega) only [hsn, Gg, go_sem]
   by_cases h6 : g.kind = 6
   · have hs : D8 e X g = { X with seen := Cp X.seen (A8 g.dep g.rep g.seq) } := by unfold D8; rw [if_pos ho, if_neg h7, if_pos h6]
     rw [hs] at hsn;have hsp := Wf X (Cp X.seen (A8 g.dep g.rep g.seq));have hvl := Bl (Cp X.seen (A8 g.dep g.rep g.seq));simp (disch := omega) only [Wa, hX, List.length_map, he, A7, Aw, Ae, Bo, hp, Ag, h7, h6, P2, Fa, go_sem];refine Aa (E7 _ _ _) ?_;simp (disch := omega) only [go_sem];refine Aa (U9 _ _) ?_;simp (disch := omega) only [hsp, hvl, go_sem];refine Ad (k + 1) _ _ rfl (by omega) (by omega) ?_ ?_
     · simp (disch := omega) only [go_sem]
     · simp (disch := omega) only [hsn, Gg, go_sem]
   · have hs : D8 e X g = X := by unfold D8; rw [if_pos ho, if_neg h7, if_neg h6]
     rw [hs] at hsn;simp (disch := omega) only [Wa, hX, List.length_map, he, A7, Aw, Ae, Bo, hp, Ag, h7, h6, go_sem];refine Ad (k + 1) _ _ rfl (by omega) (by omega) ?_ ?_
     · simp (disch := omega) only [go_sem]
     · simp (disch := omega) only [hsn, Gg, go_sem]
 obtain rfl : k = l.length := by omega
 have htk : l.take l.length = l := List.take_length;have hol := E8 (C8 l l e);simp (disch := omega) only [Wa, Gg, List.length_map, htk, Gk, hol, go_sem];refine Ch ?_;simp (disch := omega) only [go_sem]
theorem Zb {l : List Evt} {rk : Evt → Nat} (e : Evt) {h d g} (hE : EvsOk l rk) (hg : h g = some (.row 21 (l.map Bc))) : FunOk Tryz.prog 60 [.os g, .vec 21 (Bc e)] h d (.vec 15 (Aq (C8 l l e))) [] :=
 FunOk.ioRow (fun h d hg => Agj e hE hg) rfl rfl hg
def Hw (l : List Obj) (o : Obj) : List Obj := l.take (Bt l o.id) ++ o :: l.drop (Bt l o.id)
noncomputable def D2 (l : List Evt) (p : St × Vc) (e : Evt) : St × Vc :=
 if e.kind = 1 ∨ e.kind = 2 then ({ p.1 with objs := Hw p.1.objs (C8 l l e) }, p.2)
 else if e.kind = 8 then (if Hx p.2 e.rep < e.seq then (Ii p.1 e, A8 p.2 e.rep e.seq) else p)
 else if e.kind = 9 then (Oz p.1 e, p.2)
 else p
noncomputable def F4 (l m : List Evt) : St × Vc := m.foldl (D2 l) (⟨Bi l, [], C2 l l, fun _ => 0, fun _ => false⟩, fun _ => 0)
noncomputable def Ap (l : List Evt) : St := (F4 l l).1
theorem H7 (l m : List Evt) (e : Evt) : F4 l (m ++ [e]) = D2 l (F4 l m) e := by simp [F4]
theorem Ad8 {l : List Obj} {o x : Obj} : x ∈ Hw l o ↔ x = o ∨ x ∈ l := by
 unfold Hw;simp only [List.mem_append, List.mem_cons];have : x ∈ l ↔ x ∈ l.take (Bt l o.id) ∨ x ∈ l.drop (Bt l o.id) := by rw [← List.mem_append, List.take_append_drop]
 rw [this];constructor
 · rintro (h | h | h)
   · exact .inr (.inl h)
   · exact .inl h
   · exact .inr (.inr h)
 · rintro (h | h | h)
   · exact .inr (.inl h)
   · exact .inl h
   · exact .inr (.inr h)
theorem Ash (l : List Obj) (o : Obj) : (Hw l o).length = l.length + 1 := by
 unfold Hw;simp only [List.length_append, List.length_take, List.length_cons, List.length_drop];have := L0 l o.id; omega
theorem Axd (l : List Obj) (o : Obj) : (Hw l o).map obN = O3 (l.map obN) (obN o) := by
 unfold Hw O3 Bt;simp [List.map_take, List.map_drop]; rfl
theorem Y5 {l : List Obj} {o : Obj} (hs : En l) (hn : ∀ x ∈ l, x.id ≠ o.id) : En (Hw l o) := by
 unfold En; rw [Axd];refine Wj hs (F9.2 fun x hx => ?_);obtain ⟨u, hu, rfl⟩ := List.mem_map.1 hx;exact hn u hu
theorem Jf (l : List Evt) (e : Evt) : ∀ m : List Evt, (C8 l m e).id = Ak e := fun m => by
 unfold C8;generalize hq : (⟨Ak e, decide (e.kind = 2), Ak e, e.name, fun _ => 0, Cy l (Ak e) l⟩ : Obj) = o;have : o.id = Ak e := by rw [← hq]
 clear hq
 induction m generalizing o with
 | nil => exact this
 | cons f m ih =>
   simp only [List.foldl_cons];refine ih _ ?_;unfold D8;split
   · split
     · split <;> exact this
     · split <;> exact this
   · exact this
theorem Rz {l : List Evt} : ∀ (n : Nat) (m : List Evt), m.length = n → NodE m → En (F4 l m).1.objs ∧ (F4 l m).1.objs.length ≤ n ∧ ∀ o, o ∈ (F4 l m).1.objs ↔ ∃ e ∈ m, (e.kind = 1 ∨ e.kind = 2) ∧ o = C8 l l e
 | 0, m, h, _ => by obtain rfl := List.eq_nil_of_length_eq_zero h; exact ⟨List.Pairwise.nil, by simp [F4], by simp [F4]⟩
 | n + 1, m, h, hn => by
   have hne : m ≠ [] := fun e => by subst e; simp at h
   have e1 := (List.dropLast_concat_getLast hne).symm;have hn' : NodE m.dropLast := by unfold NodE at *; rw [List.map_dropLast]; exact hn.sublist (List.dropLast_sublist _)
   obtain ⟨h1, h2, h3⟩ := Rz (l := l) n m.dropLast (by simp [h]) hn';rw [e1] at hn ⊢;rw [H7];generalize m.getLast hne = e at *;generalize m.dropLast = m' at *;have grow : ∀ o : Obj, ((∃ f ∈ m' ++ [e], (f.kind = 1 ∨ f.kind = 2) ∧ o = C8 l l f) ↔ (∃ f ∈ m', (f.kind = 1 ∨ f.kind = 2) ∧ o = C8 l l f) ∨ ((e.kind = 1 ∨ e.kind = 2) ∧ o = C8 l l e)) := fun o => by
    simp only [List.mem_append, List.mem_singleton];constructor
    · rintro ⟨f, hf | rfl, h⟩
      · exact .inl ⟨f, hf, h⟩
      · exact .inr h
    · rintro (⟨f, hf, h⟩ | h)
      · exact ⟨f, .inl hf, h⟩
      · exact ⟨e, .inr rfl, h⟩
   by_cases h12 : e.kind = 1 ∨ e.kind = 2
   · have hS : (D2 l (F4 l m') e).1.objs = Hw (F4 l m').1.objs (C8 l l e) := by unfold D2; rw [if_pos h12]
     rw [hS];have hnew : ∀ x ∈ (F4 l m').1.objs, x.id ≠ (C8 l l e).id := fun x hx => by
      obtain ⟨f, hf, _, rfl⟩ := (h3 x).1 hx;rw [Jf, Jf];unfold NodE at hn;rw [List.map_append, List.nodup_append] at hn;exact hn.2.2 (Ak f) (List.mem_map_of_mem hf) (Ak e) (by simp)
     refine ⟨Y5 h1 hnew, by rw [Ash]; omega, fun o => ?_⟩;rw [Ad8, h3, grow];constructor
     · rintro (h | h)
       · exact .inr ⟨h12, h⟩
       · exact .inl h
     · rintro (h | h)
       · exact .inr h
       · exact .inl h.2
   · have hS : (D2 l (F4 l m') e).1.objs = (F4 l m').1.objs := by
      unfold D2; rw [if_neg h12];split
      · split <;> rfl
      · split <;> rfl
     rw [hS];refine ⟨h1, by omega, fun o => ?_⟩;rw [h3, grow];exact ⟨.inl, fun h => h.resolve_right fun q => h12 q.1⟩
theorem Afa (l m : List Evt) : (F4 l m).1.ents = C2 l l ∧ (F4 l m).1.known = Bi l := by
 unfold F4;generalize hq : ((⟨Bi l, [], C2 l l, fun _ => 0, fun _ => false⟩ : St), (fun _ => 0 : Vc)) = p;have : p.1.ents = C2 l l ∧ p.1.known = Bi l := by rw [← hq]; exact ⟨rfl, rfl⟩
 clear hq
 induction m generalizing p with
 | nil => exact this
 | cons f m ih =>
   simp only [List.foldl_cons];refine ih _ ?_;unfold D2;split
   · exact this
   · split
     · split
       · exact this
       · exact this
     · split <;> exact this
noncomputable def T6 (f : Bool) (l : List Evt) (k : Nat) : FS := mk [(5, .pv (.i .i64 k)), (0, .pv (.sl f 21 (l.map Bc))), (2, .p 2 0), (3, .p 3 0), (4, .p 4 0)] [(2, some (.var Bu)), (3, some (.var (.agg (Ba (F4 l (l.take k)).1)))), (4, some (.var (.vec 8 (vE (F4 l (l.take k)).2))))]
noncomputable def T5 (f : Bool) (l : List Evt) (k : Nat) : FS := mk [(5, .pv (.i .i64 k)), (0, .os 900), (2, .p 2 0), (3, .p 3 0), (4, .p 4 0), (1000000, .os 900)] [(2, some (.var Bu)), (3, some (.var (.agg (Ba (F4 l (l.take k)).1)))), (4, some (.var (.vec 8 (vE (F4 l (l.take k)).2)))), (900, some (.row 21 (l.map Bc)))]
noncomputable def Y1 (f : Bool) (l : List Evt) (k : Nat) (e : Evt) (S : St) (v : Vc) (o : Obj) (j : Nat) : FS := mk [(8, .pv (.i .i64 j)), (7, .p 7 0), (6, .p 6 0), (5, .pv (.i .i64 k)), (0, .pv (.sl f 21 (l.map Bc))), (2, .p 2 0), (3, .p 3 0), (4, .p 4 0)] [(7, some (.var (.vec 15 (Aq o)))), (6, some (.var (.vec 21 (Bc e)))), (2, some (.var Bu)), (3, some (.var (.agg (Ba S)))), (4, some (.var (.vec 8 (vE v))))]
noncomputable def Y0 (f : Bool) (l : List Evt) (k : Nat) (e : Evt) (S : St) (v : Vc) (o : Obj) (j : Nat) : FS := mk [(8, .pv (.i .i64 j)), (7, .p 7 0), (6, .p 6 0), (5, .pv (.i .i64 k)), (0, .os 900), (2, .p 2 0), (3, .p 3 0), (4, .p 4 0), (1000000, .os 900)] [(7, some (.var (.vec 15 (Aq o)))), (6, some (.var (.vec 21 (Bc e)))), (2, some (.var Bu)), (3, some (.var (.agg (Ba S)))), (4, some (.var (.vec 8 (vE v)))), (900, some (.row 21 (l.map Bc)))]
theorem Oe {l : List Obj} {i : Bn} {k : Nat} {x : Obj} (hk : k < Bt l i) (hx : l[k]? = some x) : Ic x.id i = true := by
 obtain ⟨y, h1, h2⟩ := Ap9 (l := l.map obN) hk;rw [Vl hx] at h1; cases h1; exact h2
theorem Qu {l : List Obj} (hs : En l) {i : Bn} {k : Nat} {x : Obj} (hk : Bt l i ≤ k) (hx : l[k]? = some x) : ¬ Ic x.id i = true := A2i (l := l.map obN) hs hk (Vl hx)
set_option maxHeartbeats 16000000 in
theorem Aq8 {f : Bool} {l : List Evt} {rk : Evt → Nat} {h d} (hE : EvsOk l rk) (hB : ∀ e ∈ l, 1 ≤ e.rep ∧ e.rep ≤ 8) : FunOk Tryz.prog 15 [.pv (.sl f 21 (l.map Bc))] h d (.agg (Ba (Ap l))) [] := by
 refine Al Af fn15 (by simp) rfl rfl fun F => ?_;have hn := hE.len;have hevs : ∀ e ∈ l, ev e := fun e he => (hE.ev e he).1;simp (disch := omega) only [ir15, Blk.ptr, go_sem];refine Aa (Abj (l := l) rfl rfl (by omega)) ?_;simp (disch := omega) only [go_sem];refine Aa (Ze (l := l) rfl rfl (by omega) hevs) ?_;simp (disch := omega) only [go_sem];refine A0 Af (T6 f l) (fun k => k ≤ l.length) (fun k => l.length - k) 0 (by simp) (Ah ?_ ?_) fun k hk => ?_
 · simp (disch := omega) only [go_sem]
 · simp (disch := omega) only [F4, List.take_zero, List.foldl_nil, Bu, go_sem];exact ⟨U6 (s := ⟨Bi l, [], C2 l l, fun _ => 0, fun _ => false⟩) (.inl rfl) (.inr rfl) trivial (.refl _), rfl⟩
 by_cases hlt : k < l.length
 · have hx : l[k]? = some l[k] := List.getElem?_eq_getElem hlt;have he : (l.map Bc)[k]? = some (Bc l[k]) := by rw [List.getElem?_map, hx]; rfl
   have ht := Cz hx;have hsn := H7 l (l.take k) l[k];have hlk : (l.take k).length ≤ 400 := by simp; omega
   have hnd := hE.nod.take (k + 1);rw [← ht] at hsn;rw [ht] at hnd;have hrep := hB _ (List.getElem_mem hlt);generalize l[k] = e at *;obtain ⟨hso, hol, hom⟩ := Rz (l := l) _ (l.take k) rfl (hE.nod.take k);have hel := Ac e;generalize hX : F4 l (l.take k) = X at *;obtain ⟨S, v⟩ := X;simp only at hso hol hom;by_cases h12 : e.kind = 1 ∨ e.kind = 2
   · have hs : D2 l (S, v) e = ({ S with objs := Hw S.objs (C8 l l e) }, v) := by unfold D2; rw [if_pos h12]
     rw [hs] at hsn;have n8 : ¬ e.kind = 8 := by omega
     have n9 : ¬ e.kind = 9 := by omega
     have hoe := E8 (C8 l l e);have hoi := Jf l e l;have hnew : ∀ x ∈ S.objs, x.id ≠ Ak e := fun x hx => by
      obtain ⟨f, hf, _, rfl⟩ := (hom x).1 hx;rw [Jf];unfold NodE at hnd;rw [List.map_append, List.nodup_append] at hnd;exact hnd.2.2 (Ak f) (List.mem_map_of_mem hf) (Ak e) (by simp)
     rcases h12 with h1 | h2
     · simp (disch := omega) only [T6, hX, List.length_map, he, Bh, hel, Ag, h1, go_sem];refine Aa (Zc e hE) ?_;simp (disch := omega) only [hoe, Ba, A6, List.length_map, Bu, go_sem];generalize hO : C8 l l e = o at *;have hp0 := L0 S.objs (Ak e);refine A0 Af (Y1 f l k e S v o) (fun j => Bt S.objs (Ak e) ≤ j ∧ j ≤ S.objs.length) (fun j => j) S.objs.length ⟨hp0, Nat.le_refl _⟩ (Ah ?_ ?_) fun j hj => ?_
       · simp (disch := omega) only [go_sem]
       · simp (disch := omega) only [Ba, A6, Bu, go_sem]
       obtain ⟨hj1, hj2⟩ := hj;by_cases hj0 : j = 0
       · subst hj0;have hjq : Bt S.objs (Ak e) = 0 := by omega
         simp (disch := omega) only [Y1, Ba, A6, Bu, go_sem];have hT : (S.objs.map Aq).take S.objs.length = S.objs.map Aq := List.take_of_length_le (by simp);have hD : ((S.objs.map Aq).drop 0).length = S.objs.length - 0 := by simp
         have hD2 : ((S.objs.map Aq).take 0).length = 0 := by rw [List.length_take, List.length_map]; omega
         have hI : (S.objs.map Aq).take 0 ++ Aq o :: S.objs.map Aq = (Hw S.objs o).map Aq := by
          unfold Hw; rw [hoi, hjq]; simp [List.map_take, List.map_drop]
         refine Kp ?_;simp (disch := omega) only [List.length_map, Gk, hoe, hT, hD, hD2, Ag, n8, n9, go_sem];refine ⟨k + 1, by omega, by omega, D7 70 rfl (Ah ?_ ?_)⟩
         · simp (disch := omega) only [go_sem]
         · simp (disch := omega) only [hI, hsn, Ba, A6, Bu, go_sem]
       · have hjx : j - 1 < S.objs.length := by omega
         have hx3 : S.objs[j - 1]? = some S.objs[j - 1] := List.getElem?_eq_getElem hjx;have he3 : (S.objs.map Aq)[j - 1]? = some (Aq S.objs[j - 1]) := by rw [List.getElem?_map, hx3]; rfl
         have hmx := List.getElem_mem hjx;have ejn : ((j : Int) - 1).toNat = j - 1 := by omega
         have hjp : (0 : Int) < j := by omega
         generalize S.objs[j - 1] = x at *;simp (disch := omega) only [Y1, Ba, A6, Bu, hjp, List.length_map, ejn, he3, Im, go_sem];refine Aa (F8 o.id.1 o.id.2 x.id.1 x.id.2) ?_;by_cases hlx : Cl o.id.1 o.id.2 x.id.1 x.id.2 = true
         · simp (disch := omega) only [hlx, go_sem];refine Ad (j - 1) _ _ rfl ⟨?_, by omega⟩ (by omega) ?_ ?_
           · have : ¬ Bt S.objs (Ak e) = j := fun q => Nq (Oe (i := Ak e) (by omega) hx3) (by rw [← hoi]; exact hlx);omega
           · simp (disch := omega) only [go_sem]
           · simp (disch := omega) only [Ba, A6, Bu, go_sem]
         · have hlx' : Cl o.id.1 o.id.2 x.id.1 x.id.2 = false := by simpa using hlx
           have hjq : Bt S.objs (Ak e) = j := by
            have h3 : Ic x.id (Ak e) = true := by
             rw [hoi] at hlx;exact Kj hlx (fun q => hnew x hmx q.symm)
            have : ¬ Bt S.objs (Ak e) ≤ j - 1 := fun q => Qu hso q hx3 h3;omega
           simp (disch := omega) only [hlx', go_sem];have hT : (S.objs.map Aq).take S.objs.length = S.objs.map Aq := List.take_of_length_le (by simp);have hD : ((S.objs.map Aq).drop j).length = S.objs.length - j := by simp
           have hD2 : ((S.objs.map Aq).take j).length = j := by rw [List.length_take, List.length_map]; omega
           have hI : (S.objs.map Aq).take j ++ Aq o :: (S.objs.map Aq).drop j = (Hw S.objs o).map Aq := by
            unfold Hw; rw [hoi, hjq]; simp [List.map_take, List.map_drop]
           refine Kp ?_;simp (disch := omega) only [List.length_map, Gk, hoe, hT, hD, hD2, Ag, n8, n9, go_sem];refine ⟨k + 1, by omega, by omega, D7 70 rfl (Ah ?_ ?_)⟩
           · simp (disch := omega) only [go_sem]
           · simp (disch := omega) only [hI, hsn, Ba, A6, Bu, go_sem]
     · have n1 : ¬ e.kind = 1 := by omega
       simp (disch := omega) only [T6, hX, List.length_map, he, Bh, hel, Ag, n1, h2, go_sem];refine Aa (Zc e hE) ?_;simp (disch := omega) only [hoe, Ba, A6, List.length_map, Bu, go_sem];generalize hO : C8 l l e = o at *;have hp0 := L0 S.objs (Ak e);refine A0 Af (Y1 f l k e S v o) (fun j => Bt S.objs (Ak e) ≤ j ∧ j ≤ S.objs.length) (fun j => j) S.objs.length ⟨hp0, Nat.le_refl _⟩ (Ah ?_ ?_) fun j hj => ?_
       · simp (disch := omega) only [go_sem]
       · simp (disch := omega) only [Ba, A6, Bu, go_sem]
       obtain ⟨hj1, hj2⟩ := hj;by_cases hj0 : j = 0
       · subst hj0;have hjq : Bt S.objs (Ak e) = 0 := by omega
         simp (disch := omega) only [Y1, Ba, A6, Bu, go_sem];have hT : (S.objs.map Aq).take S.objs.length = S.objs.map Aq := List.take_of_length_le (by simp);have hD : ((S.objs.map Aq).drop 0).length = S.objs.length - 0 := by simp
         have hD2 : ((S.objs.map Aq).take 0).length = 0 := by rw [List.length_take, List.length_map]; omega
         have hI : (S.objs.map Aq).take 0 ++ Aq o :: S.objs.map Aq = (Hw S.objs o).map Aq := by
          unfold Hw; rw [hoi, hjq]; simp [List.map_take, List.map_drop]
         refine Kp ?_;simp (disch := omega) only [List.length_map, Gk, hoe, hT, hD, hD2, Ag, n8, n9, go_sem];refine ⟨k + 1, by omega, by omega, D7 70 rfl (Ah ?_ ?_)⟩
         · simp (disch := omega) only [go_sem]
         · simp (disch := omega) only [hI, hsn, Ba, A6, Bu, go_sem]
       · have hjx : j - 1 < S.objs.length := by omega
         have hx3 : S.objs[j - 1]? = some S.objs[j - 1] := List.getElem?_eq_getElem hjx;have he3 : (S.objs.map Aq)[j - 1]? = some (Aq S.objs[j - 1]) := by rw [List.getElem?_map, hx3]; rfl
         have hmx := List.getElem_mem hjx;have ejn : ((j : Int) - 1).toNat = j - 1 := by omega
         have hjp : (0 : Int) < j := by omega
         generalize S.objs[j - 1] = x at *;simp (disch := omega) only [Y1, Ba, A6, Bu, hjp, List.length_map, ejn, he3, Im, go_sem];refine Aa (F8 o.id.1 o.id.2 x.id.1 x.id.2) ?_;by_cases hlx : Cl o.id.1 o.id.2 x.id.1 x.id.2 = true
         · simp (disch := omega) only [hlx, go_sem];refine Ad (j - 1) _ _ rfl ⟨?_, by omega⟩ (by omega) ?_ ?_
           · have : ¬ Bt S.objs (Ak e) = j := fun q => Nq (Oe (i := Ak e) (by omega) hx3) (by rw [← hoi]; exact hlx);omega
           · simp (disch := omega) only [go_sem]
           · simp (disch := omega) only [Ba, A6, Bu, go_sem]
         · have hlx' : Cl o.id.1 o.id.2 x.id.1 x.id.2 = false := by simpa using hlx
           have hjq : Bt S.objs (Ak e) = j := by
            have h3 : Ic x.id (Ak e) = true := by
             rw [hoi] at hlx;exact Kj hlx (fun q => hnew x hmx q.symm)
            have : ¬ Bt S.objs (Ak e) ≤ j - 1 := fun q => Qu hso q hx3 h3;omega
           simp (disch := omega) only [hlx', go_sem];have hT : (S.objs.map Aq).take S.objs.length = S.objs.map Aq := List.take_of_length_le (by simp);have hD : ((S.objs.map Aq).drop j).length = S.objs.length - j := by simp
           have hD2 : ((S.objs.map Aq).take j).length = j := by rw [List.length_take, List.length_map]; omega
           have hI : (S.objs.map Aq).take j ++ Aq o :: (S.objs.map Aq).drop j = (Hw S.objs o).map Aq := by
            unfold Hw; rw [hoi, hjq]; simp [List.map_take, List.map_drop]
           refine Kp ?_;simp (disch := omega) only [List.length_map, Gk, hoe, hT, hD, hD2, Ag, n8, n9, go_sem];refine ⟨k + 1, by omega, by omega, D7 70 rfl (Ah ?_ ?_)⟩
           · simp (disch := omega) only [go_sem]
           · simp (disch := omega) only [hI, hsn, Ba, A6, Bu, go_sem]
   have n1 : ¬ e.kind = 1 := fun h => h12 (.inl h);have n2 : ¬ e.kind = 2 := fun h => h12 (.inr h);obtain ⟨r, hr8, hre⟩ : ∃ r : Nat, r < 8 ∧ e.rep - 1 = r := ⟨(e.rep - 1).toNat, by omega, by omega⟩
   by_cases h8 : e.kind = 8
   · have n9 : ¬ e.kind = 9 := by omega
     by_cases hq : Hx v e.rep < e.seq
     · have hs : D2 l (S, v) e = (Ii S e, A8 v e.rep e.seq) := by unfold D2; rw [if_neg h12, if_pos h8]; exact if_pos hq
       rw [hs] at hsn;have hS : Ii S e = { S with wards := D4 S.wards r e.ward } := by unfold Ii; rw [hre]; rfl
       rw [hS] at hsn;have hsp := Wi S hr8 e.ward (.sl false 15 (S.objs.map Aq)) (.sl false 15 (S.ents.map Bq));have hq' : ((Hx v e.rep : Nat) : Int) < (e.seq : Int) := by omega
       have hvl := Bl (A8 v e.rep e.seq);simp (disch := omega) only [T6, hX, List.length_map, he, Bh, hel, Ag, n1, n2, h8, Dd, Fx, go_sem];refine Aa (Pw v e.rep) ?_;simp (disch := omega) only [hq', Aw, go_sem];refine Aa (E7 _ _ _) ?_;simp (disch := omega) only [hvl, Dd, hre, Ve, Ba, A6, hsp, Ag, h8, go_sem];refine Ad (k + 1) _ _ rfl (by omega) (by omega) ?_ ?_
       · simp (disch := omega) only [go_sem]
       · simp (disch := omega) only [hsn, Bu, go_sem];exact ⟨Sj { S with wards := D4 S.wards r e.ward }, rfl⟩
     · have hs : D2 l (S, v) e = (S, v) := by unfold D2; rw [if_neg h12, if_pos h8]; exact if_neg hq
       rw [hs] at hsn;have hq' : ¬ ((Hx v e.rep : Nat) : Int) < (e.seq : Int) := by omega
       simp (disch := omega) only [T6, hX, List.length_map, he, Bh, hel, Ag, n1, n2, h8, Dd, Fx, go_sem];refine Aa (Pw v e.rep) ?_;simp (disch := omega) only [hq', Ag, h8, go_sem];refine Ad (k + 1) _ _ rfl (by omega) (by omega) ?_ ?_
       · simp (disch := omega) only [go_sem]
       · simp (disch := omega) only [hsn, Bu, Ba, A6, go_sem]
   by_cases h9 : e.kind = 9
   · have hs : D2 l (S, v) e = (Oz S e, v) := by unfold D2; rw [if_neg h12, if_neg h8, if_pos h9]
     rw [hs] at hsn;have hS : Oz S e = { S with ret := D4 S.ret r true } := by unfold Oz; rw [hre]; rfl
     rw [hS] at hsn;have hsp := Aa2 S hr8 true (.sl false 15 (S.objs.map Aq)) (.sl false 15 (S.ents.map Bq));simp (disch := omega) only [T6, hX, List.length_map, he, Bh, hel, Ag, n1, n2, h8, h9, Dd, hre, Ba, A6, hsp, go_sem];refine Ad (k + 1) _ _ rfl (by omega) (by omega) ?_ ?_
     · simp (disch := omega) only [go_sem]
     · simp (disch := omega) only [hsn, Bu, go_sem];exact Sj { S with ret := D4 S.ret r true }
   · have hs : D2 l (S, v) e = (S, v) := by unfold D2; rw [if_neg h12, if_neg h8, if_neg h9]
     rw [hs] at hsn;simp (disch := omega) only [T6, hX, List.length_map, he, Bh, hel, Ag, n1, n2, h8, h9, go_sem];refine Ad (k + 1) _ _ rfl (by omega) (by omega) ?_ ?_
     · simp (disch := omega) only [go_sem]
     · simp (disch := omega) only [hsn, Bu, Ba, A6, go_sem]
 obtain rfl : k = l.length := by omega
 have htk : l.take l.length = l := List.take_length;simp (disch := omega) only [T6, Bu, Ba, A6, List.length_map, htk, Ap, go_sem]
set_option maxHeartbeats 16000000 in
theorem Alu {l : List Evt} {rk : Evt → Nat} {h d} (hE : EvsOk l rk) (hB : ∀ e ∈ l, 1 ≤ e.rep ∧ e.rep ≤ 8) (hg : h 900 = some (.row 21 (l.map Bc))) : FunOk Tryz.prog 15 [.os 900] h d (.agg (Ba (Ap l))) [.upd 900 (.row 21 (l.map Bc))] := by
 refine Gc (g := 900) Af fn15 (by simp) (by simp [A3, tn]) (by simp [A3, tn]) hg rfl (by simp [Blk.ptr, SV.kill]) rfl (fun _ => rfl) fun F => ?_;obtain ⟨f, hf⟩ : ∃ f : Bool, f = false := ⟨_, rfl⟩
 have hn := hE.len;have hevs : ∀ e ∈ l, ev e := fun e he => (hE.ev e he).1;simp (disch := omega) only [ir15, Blk.ptr, go_sem];refine Aa (Abj (l := l) rfl rfl (by omega)) ?_;simp (disch := omega) only [go_sem];refine Aa (Ze (l := l) rfl rfl (by omega) hevs) ?_;simp (disch := omega) only [go_sem];refine A0 Af (T5 f l) (fun k => k ≤ l.length) (fun k => l.length - k) 0 (by simp) (Ah ?_ ?_) fun k hk => ?_
 · simp (disch := omega) only [go_sem]
 · simp (disch := omega) only [F4, List.take_zero, List.foldl_nil, Bu, go_sem];exact ⟨U6 (s := ⟨Bi l, [], C2 l l, fun _ => 0, fun _ => false⟩) (.inl rfl) (.inr rfl) trivial (.refl _), rfl⟩
 by_cases hlt : k < l.length
 · have hx : l[k]? = some l[k] := List.getElem?_eq_getElem hlt;have he : (l.map Bc)[k]? = some (Bc l[k]) := by rw [List.getElem?_map, hx]; rfl
   have ht := Cz hx;have hsn := H7 l (l.take k) l[k];have hlk : (l.take k).length ≤ 400 := by simp; omega
   have hnd := hE.nod.take (k + 1);rw [← ht] at hsn;rw [ht] at hnd;have hrep := hB _ (List.getElem_mem hlt);generalize l[k] = e at *;obtain ⟨hso, hol, hom⟩ := Rz (l := l) _ (l.take k) rfl (hE.nod.take k);have hel := Ac e;generalize hX : F4 l (l.take k) = X at *;obtain ⟨S, v⟩ := X;simp only at hso hol hom;by_cases h12 : e.kind = 1 ∨ e.kind = 2
   · have hs : D2 l (S, v) e = ({ S with objs := Hw S.objs (C8 l l e) }, v) := by unfold D2; rw [if_pos h12]
     rw [hs] at hsn;have n8 : ¬ e.kind = 8 := by omega
     have n9 : ¬ e.kind = 9 := by omega
     have hoe := E8 (C8 l l e);have hoi := Jf l e l;have hnew : ∀ x ∈ S.objs, x.id ≠ Ak e := fun x hx => by
      obtain ⟨f, hf, _, rfl⟩ := (hom x).1 hx;rw [Jf];unfold NodE at hnd;rw [List.map_append, List.nodup_append] at hnd;exact hnd.2.2 (Ak f) (List.mem_map_of_mem hf) (Ak e) (by simp)
     rcases h12 with h1 | h2
     · simp (disch := omega) only [T5, hX, List.length_map, he, Bh, hel, Ag, h1, go_sem];refine Aa (Zb e hE rfl) ?_;simp (disch := omega) only [hoe, Ba, A6, List.length_map, Bu, go_sem];generalize hO : C8 l l e = o at *;have hp0 := L0 S.objs (Ak e);refine A0 Af (Y0 f l k e S v o) (fun j => Bt S.objs (Ak e) ≤ j ∧ j ≤ S.objs.length) (fun j => j) S.objs.length ⟨hp0, Nat.le_refl _⟩ (Ah ?_ ?_) fun j hj => ?_
       · simp (disch := omega) only [go_sem]
       · simp (disch := omega) only [Ba, A6, Bu, go_sem]
       obtain ⟨hj1, hj2⟩ := hj;by_cases hj0 : j = 0
       · subst hj0;have hjq : Bt S.objs (Ak e) = 0 := by omega
         simp (disch := omega) only [Y0, Ba, A6, Bu, go_sem];have hT : (S.objs.map Aq).take S.objs.length = S.objs.map Aq := List.take_of_length_le (by simp);have hD : ((S.objs.map Aq).drop 0).length = S.objs.length - 0 := by simp
         have hD2 : ((S.objs.map Aq).take 0).length = 0 := by rw [List.length_take, List.length_map]; omega
         have hI : (S.objs.map Aq).take 0 ++ Aq o :: S.objs.map Aq = (Hw S.objs o).map Aq := by
          unfold Hw; rw [hoi, hjq]; simp [List.map_take, List.map_drop]
         refine Kp ?_;simp (disch := omega) only [List.length_map, Gk, hoe, hT, hD, hD2, Ag, n8, n9, go_sem];refine ⟨k + 1, by omega, by omega, D7 70 rfl (Ah ?_ ?_)⟩
         · simp (disch := omega) only [go_sem]
         · simp (disch := omega) only [hI, hsn, Ba, A6, Bu, go_sem]
       · have hjx : j - 1 < S.objs.length := by omega
         have hx3 : S.objs[j - 1]? = some S.objs[j - 1] := List.getElem?_eq_getElem hjx;have he3 : (S.objs.map Aq)[j - 1]? = some (Aq S.objs[j - 1]) := by rw [List.getElem?_map, hx3]; rfl
         have hmx := List.getElem_mem hjx;have ejn : ((j : Int) - 1).toNat = j - 1 := by omega
         have hjp : (0 : Int) < j := by omega
         generalize S.objs[j - 1] = x at *;simp (disch := omega) only [Y0, Ba, A6, Bu, hjp, List.length_map, ejn, he3, Im, go_sem];refine Aa (F8 o.id.1 o.id.2 x.id.1 x.id.2) ?_;by_cases hlx : Cl o.id.1 o.id.2 x.id.1 x.id.2 = true
         · simp (disch := omega) only [hlx, go_sem];refine Ad (j - 1) _ _ rfl ⟨?_, by omega⟩ (by omega) ?_ ?_
           · have : ¬ Bt S.objs (Ak e) = j := fun q => Nq (Oe (i := Ak e) (by omega) hx3) (by rw [← hoi]; exact hlx);omega
           · simp (disch := omega) only [go_sem]
           · simp (disch := omega) only [Ba, A6, Bu, go_sem]
         · have hlx' : Cl o.id.1 o.id.2 x.id.1 x.id.2 = false := by simpa using hlx
           have hjq : Bt S.objs (Ak e) = j := by
            have h3 : Ic x.id (Ak e) = true := by
             rw [hoi] at hlx;exact Kj hlx (fun q => hnew x hmx q.symm)
            have : ¬ Bt S.objs (Ak e) ≤ j - 1 := fun q => Qu hso q hx3 h3;omega
           simp (disch := omega) only [hlx', go_sem];have hT : (S.objs.map Aq).take S.objs.length = S.objs.map Aq := List.take_of_length_le (by simp);have hD : ((S.objs.map Aq).drop j).length = S.objs.length - j := by simp
           have hD2 : ((S.objs.map Aq).take j).length = j := by rw [List.length_take, List.length_map]; omega
           have hI : (S.objs.map Aq).take j ++ Aq o :: (S.objs.map Aq).drop j = (Hw S.objs o).map Aq := by
            unfold Hw; rw [hoi, hjq]; simp [List.map_take, List.map_drop]
           refine Kp ?_;simp (disch := omega) only [List.length_map, Gk, hoe, hT, hD, hD2, Ag, n8, n9, go_sem];refine ⟨k + 1, by omega, by omega, D7 70 rfl (Ah ?_ ?_)⟩
           · simp (disch := omega) only [go_sem]
           · simp (disch := omega) only [hI, hsn, Ba, A6, Bu, go_sem]
     · have n1 : ¬ e.kind = 1 := by omega
       simp (disch := omega) only [T5, hX, List.length_map, he, Bh, hel, Ag, n1, h2, go_sem];refine Aa (Zb e hE rfl) ?_;simp (disch := omega) only [hoe, Ba, A6, List.length_map, Bu, go_sem];generalize hO : C8 l l e = o at *;have hp0 := L0 S.objs (Ak e);refine A0 Af (Y0 f l k e S v o) (fun j => Bt S.objs (Ak e) ≤ j ∧ j ≤ S.objs.length) (fun j => j) S.objs.length ⟨hp0, Nat.le_refl _⟩ (Ah ?_ ?_) fun j hj => ?_
       · simp (disch := omega) only [go_sem]
       · simp (disch := omega) only [Ba, A6, Bu, go_sem]
       obtain ⟨hj1, hj2⟩ := hj;by_cases hj0 : j = 0
       · subst hj0;have hjq : Bt S.objs (Ak e) = 0 := by omega
         simp (disch := omega) only [Y0, Ba, A6, Bu, go_sem];have hT : (S.objs.map Aq).take S.objs.length = S.objs.map Aq := List.take_of_length_le (by simp);have hD : ((S.objs.map Aq).drop 0).length = S.objs.length - 0 := by simp
         have hD2 : ((S.objs.map Aq).take 0).length = 0 := by rw [List.length_take, List.length_map]; omega
         have hI : (S.objs.map Aq).take 0 ++ Aq o :: S.objs.map Aq = (Hw S.objs o).map Aq := by
          unfold Hw; rw [hoi, hjq]; simp [List.map_take, List.map_drop]
         refine Kp ?_;simp (disch := omega) only [List.length_map, Gk, hoe, hT, hD, hD2, Ag, n8, n9, go_sem];refine ⟨k + 1, by omega, by omega, D7 70 rfl (Ah ?_ ?_)⟩
         · simp (disch := omega) only [go_sem]
         · simp (disch := omega) only [hI, hsn, Ba, A6, Bu, go_sem]
       · have hjx : j - 1 < S.objs.length := by omega
         have hx3 : S.objs[j - 1]? = some S.objs[j - 1] := List.getElem?_eq_getElem hjx;have he3 : (S.objs.map Aq)[j - 1]? = some (Aq S.objs[j - 1]) := by rw [List.getElem?_map, hx3]; rfl
         have hmx := List.getElem_mem hjx;have ejn : ((j : Int) - 1).toNat = j - 1 := by omega
         have hjp : (0 : Int) < j := by omega
         generalize S.objs[j - 1] = x at *;simp (disch := omega) only [Y0, Ba, A6, Bu, hjp, List.length_map, ejn, he3, Im, go_sem];refine Aa (F8 o.id.1 o.id.2 x.id.1 x.id.2) ?_;by_cases hlx : Cl o.id.1 o.id.2 x.id.1 x.id.2 = true
         · simp (disch := omega) only [hlx, go_sem];refine Ad (j - 1) _ _ rfl ⟨?_, by omega⟩ (by omega) ?_ ?_
           · have : ¬ Bt S.objs (Ak e) = j := fun q => Nq (Oe (i := Ak e) (by omega) hx3) (by rw [← hoi]; exact hlx);omega
           · simp (disch := omega) only [go_sem]
           · simp (disch := omega) only [Ba, A6, Bu, go_sem]
         · have hlx' : Cl o.id.1 o.id.2 x.id.1 x.id.2 = false := by simpa using hlx
           have hjq : Bt S.objs (Ak e) = j := by
            have h3 : Ic x.id (Ak e) = true := by
             rw [hoi] at hlx;exact Kj hlx (fun q => hnew x hmx q.symm)
            have : ¬ Bt S.objs (Ak e) ≤ j - 1 := fun q => Qu hso q hx3 h3;omega
           simp (disch := omega) only [hlx', go_sem];have hT : (S.objs.map Aq).take S.objs.length = S.objs.map Aq := List.take_of_length_le (by simp);have hD : ((S.objs.map Aq).drop j).length = S.objs.length - j := by simp
           have hD2 : ((S.objs.map Aq).take j).length = j := by rw [List.length_take, List.length_map]; omega
           have hI : (S.objs.map Aq).take j ++ Aq o :: (S.objs.map Aq).drop j = (Hw S.objs o).map Aq := by
            unfold Hw; rw [hoi, hjq]; simp [List.map_take, List.map_drop]
           refine Kp ?_;simp (disch := omega) only [List.length_map, Gk, hoe, hT, hD, hD2, Ag, n8, n9, go_sem];refine ⟨k + 1, by omega, by omega, D7 70 rfl (Ah ?_ ?_)⟩
           · simp (disch := omega) only [go_sem]
           · simp (disch := omega) only [hI, hsn, Ba, A6, Bu, go_sem]
   have n1 : ¬ e.kind = 1 := fun h => h12 (.inl h);have n2 : ¬ e.kind = 2 := fun h => h12 (.inr h);obtain ⟨r, hr8, hre⟩ : ∃ r : Nat, r < 8 ∧ e.rep - 1 = r := ⟨(e.rep - 1).toNat, by omega, by omega⟩
   by_cases h8 : e.kind = 8
   · have n9 : ¬ e.kind = 9 := by omega
     by_cases hq : Hx v e.rep < e.seq
     · have hs : D2 l (S, v) e = (Ii S e, A8 v e.rep e.seq) := by unfold D2; rw [if_neg h12, if_pos h8]; exact if_pos hq
       rw [hs] at hsn;have hS : Ii S e = { S with wards := D4 S.wards r e.ward } := by unfold Ii; rw [hre]; rfl
       rw [hS] at hsn;have hsp := Wi S hr8 e.ward (.sl false 15 (S.objs.map Aq)) (.sl false 15 (S.ents.map Bq));have hq' : ((Hx v e.rep : Nat) : Int) < (e.seq : Int) := by omega
       have hvl := Bl (A8 v e.rep e.seq);simp (disch := omega) only [T5, hX, List.length_map, he, Bh, hel, Ag, n1, n2, h8, Dd, Fx, go_sem];refine Aa (Pw v e.rep) ?_;simp (disch := omega) only [hq', Aw, go_sem];refine Aa (E7 _ _ _) ?_;simp (disch := omega) only [hvl, Dd, hre, Ve, Ba, A6, hsp, Ag, h8, go_sem];refine Ad (k + 1) _ _ rfl (by omega) (by omega) ?_ ?_
       · simp (disch := omega) only [go_sem]
       · simp (disch := omega) only [hsn, Bu, go_sem];exact ⟨Sj { S with wards := D4 S.wards r e.ward }, rfl⟩
     · have hs : D2 l (S, v) e = (S, v) := by unfold D2; rw [if_neg h12, if_pos h8]; exact if_neg hq
       rw [hs] at hsn;have hq' : ¬ ((Hx v e.rep : Nat) : Int) < (e.seq : Int) := by omega
       simp (disch := omega) only [T5, hX, List.length_map, he, Bh, hel, Ag, n1, n2, h8, Dd, Fx, go_sem];refine Aa (Pw v e.rep) ?_;simp (disch := omega) only [hq', Ag, h8, go_sem];refine Ad (k + 1) _ _ rfl (by omega) (by omega) ?_ ?_
       · simp (disch := omega) only [go_sem]
       · simp (disch := omega) only [hsn, Bu, Ba, A6, go_sem]
   by_cases h9 : e.kind = 9
   · have hs : D2 l (S, v) e = (Oz S e, v) := by unfold D2; rw [if_neg h12, if_neg h8, if_pos h9]
     rw [hs] at hsn;have hS : Oz S e = { S with ret := D4 S.ret r true } := by unfold Oz; rw [hre]; rfl
     rw [hS] at hsn;have hsp := Aa2 S hr8 true (.sl false 15 (S.objs.map Aq)) (.sl false 15 (S.ents.map Bq));simp (disch := omega) only [T5, hX, List.length_map, he, Bh, hel, Ag, n1, n2, h8, h9, Dd, hre, Ba, A6, hsp, go_sem];refine Ad (k + 1) _ _ rfl (by omega) (by omega) ?_ ?_
     · simp (disch := omega) only [go_sem]
     · simp (disch := omega) only [hsn, Bu, go_sem];exact Sj { S with ret := D4 S.ret r true }
   · have hs : D2 l (S, v) e = (S, v) := by unfold D2; rw [if_neg h12, if_neg h8, if_neg h9]
     rw [hs] at hsn;simp (disch := omega) only [T5, hX, List.length_map, he, Bh, hel, Ag, n1, n2, h8, h9, go_sem];refine Ad (k + 1) _ _ rfl (by omega) (by omega) ?_ ?_
     · simp (disch := omega) only [go_sem]
     · simp (disch := omega) only [hsn, Bu, Ba, A6, go_sem]
 obtain rfl : k = l.length := by omega
 have htk : l.take l.length = l := List.take_length;simp (disch := omega) only [T5, Bu, Ba, A6, List.length_map, htk, Ap, go_sem];refine Ch ?_;simp (disch := omega) only [go_sem]
theorem Aq7 {l : List Evt} {rk : Evt → Nat} {h d g} (hE : EvsOk l rk) (hB : ∀ e ∈ l, 1 ≤ e.rep ∧ e.rep ≤ 8) (hg : h g = some (.row 21 (l.map Bc))) : FunOk Tryz.prog 15 [.os g] h d (.agg (Ba (Ap l))) [] :=
 FunOk.ioRow (fun h d hg => Alu hE hB hg) rfl rfl hg
theorem Agx {l : List Obj} (hs : En l) (i : Bn) : E9 l i = l.find? fun o => decide (o.id = i) := by
 cases h : E9 l i with
 | some o =>
   obtain ⟨h1, h2⟩ := G3 h;symm;obtain ⟨hlt, hg⟩ := List.getElem?_eq_some_iff.1 h1;rw [List.find?_eq_some_iff_getElem];refine ⟨by simpa using h2, Bt l i, hlt, hg, fun j hj => ?_⟩;have := Oe hj (List.getElem?_eq_getElem (by omega));simp only [Bool.not_eq_true', decide_eq_false_iff_not];intro q;rw [q] at this;exact Gb this
 | none =>
   symm;rw [List.find?_eq_none];intro x hx q;have q : x.id = i := by simpa using q
   obtain ⟨j, hj⟩ := List.mem_iff_getElem?.1 hx;have h1 : ¬ j < Bt l i := fun hq => by
    have := Oe hq hj;rw [q] at this; exact Gb this
   by_cases e : j = Bt l i
   · unfold E9 at h;rw [← e, hj] at h;simp only at h;rw [if_pos q] at h; cases h
   · have hlt := (List.getElem?_eq_some_iff.1 hj).1;have hp : Bt l i < l.length := by omega
     have hy : l[Bt l i]? = some l[Bt l i] := List.getElem?_eq_getElem hp;have h3 := K5 hs hy hj (by omega);rw [q] at h3;exact Qu hs (Nat.le_refl _) hy h3
def Aat (s : St) (i : Bn) (z : SV) (k : Nat) : FS := mk [(6, .pv (.i .i64 k)), (2, .p 2 0), (3, .p 3 0), (4, .p 4 0)] [(2, some (.var (.agg (Ba s)))), (3, some (.var (.vec 2 [.i .i64 i.1, .i .u32 i.2]))), (4, some (.var z))]
def Alx : Obj := ⟨(0, 0), false, (0, 0), [], fun _ => 0, []⟩
theorem Aml : Imp (.agg [.pv (.i .i64 0), .pv (.i .u32 0), .pv (.b false), .pv (.i .i64 0), .pv (.i .u32 0), .pv (.s []), .vec 8 (vE fun _ => 0), .pv (.sl true 0 [])]) (.vec 15 (Aq Alx)) :=
 fun V ρ v h => Amm (Ajh Alx (.inl rfl)) V ρ v (Gy (n := 15) (cs := Fu true 0 Alx) (by rfl) (Es _ _ _) V ρ v h)
set_option maxHeartbeats 1000000 in
theorem Ai9 {s : St} (i : Bn) (hs : En s.objs) {h d} (hn : s.objs.length ≤ 1000) : FunOk Tryz.prog 92 [.agg (Ba s), .vec 2 [.i .i64 i.1, .i .u32 i.2]] h d (.tup [.vec 15 (Aq ((E9 s.objs i).getD Alx)), .pv (.b (E9 s.objs i).isSome)]) [] := by
 refine Tm Af fn92 (by simp) rfl rfl fun F => ?_;simp (disch := omega) only [ir92, Ba, A6, go_sem];refine A0 Af (Aat s i Gg) (fun k => k ≤ s.objs.length ∧ ∀ j x, j < k → s.objs[j]? = some x → x.id ≠ i) (fun k => s.objs.length - k) 0 ⟨by simp, fun j x hj => absurd hj (Nat.not_lt_zero j)⟩ (Ah ?_ ?_) fun k hk => ?_
 · simp (disch := omega) only [go_sem]
 · simp (disch := omega) only [Gg, Ba, A6, go_sem]
 obtain ⟨hk1, hk2⟩ := hk;rw [Agx hs];by_cases hlt : k < s.objs.length
 · have hx : s.objs[k]? = some s.objs[k] := List.getElem?_eq_getElem hlt;have he : (s.objs.map Aq)[k]? = some (Aq s.objs[k]) := by rw [List.getElem?_map, hx]; rfl
   have hgk : s.objs[k] = s.objs[k] := rfl;generalize hO : s.objs[k] = o at *;have hol := E8 o;by_cases hb : o.id = i
   · have hp := Fo hb;have hf : s.objs.find? (fun o => decide (o.id = i)) = some o := by
      rw [List.find?_eq_some_iff_getElem];refine ⟨by simpa using hb, k, hlt, hO, fun j hj => ?_⟩;simpa using hk2 j _ hj (List.getElem?_eq_getElem (by omega))
     rw [hf];simp (disch := omega) only [Aat, Gg, Ba, A6, List.length_map, he, Im, Ae, Bo, hp, Gk, hol, go_sem];refine Ch ?_;simp (disch := omega) only [go_sem];exact Imp.refl _
   · have hp := Fp hb;simp (disch := omega) only [Aat, Gg, Ba, A6, List.length_map, he, Im, Ae, Bo, hp, go_sem];refine Ad (k + 1) _ _ rfl ⟨by omega, fun j x hj hjx => ?_⟩ (by omega) ?_ ?_
     · by_cases ej : j = k
       · subst ej; rw [hx] at hjx; cases hjx; exact hb
       · exact hk2 j x (by omega) hjx
     · simp (disch := omega) only [go_sem]
     · simp (disch := omega) only [Gg, Ba, A6, go_sem]
 · obtain rfl : k = s.objs.length := by omega
   have hf : s.objs.find? (fun o => decide (o.id = i)) = none := by
    rw [List.find?_eq_none];intro x hx;obtain ⟨j, hj⟩ := List.mem_iff_getElem?.1 hx;simpa using hk2 j x (List.getElem?_eq_some_iff.1 hj).1 hj
   rw [hf];simp (disch := omega) only [Aat, Gg, Ba, A6, List.length_map, go_sem];refine Ch ?_;simp (disch := omega) only [go_sem];exact Uz Aml
theorem Aw7 {s : St} (i : Bn) (hs : En s.objs) {h d} (hn : s.objs.length ≤ 1000) : FunOk Tryz.prog 91 [.agg (Ba s), .vec 2 [.i .i64 i.1, .i .u32 i.2]] h d (.pv (.i .i64 (Ky s.objs i))) [] := by
 refine Al Af fn91 (by simp) rfl rfl fun F => ?_;have hd := Ahp (l := s.objs) i;have ho := Ai9 (s := s) i hs hn (h := fun _ => none) (d := 0);rw [show Ba s = [.vec 8 (vE s.known), .pv (.sl false 15 (s.objs.map Aq)), .pv (.sl false 15 (s.ents.map Bq)), .vec 8 (iE s.wards), .vec 8 (wE s.ret)] from rfl] at ho;simp (disch := omega) only [ir91, Ba, A6, go_sem];refine Aa (Aqf _ _) ?_;by_cases h0 : i = (0, 0)
 · have hz : Cg i.1 i.2 = true := decide_eq_true (Acp h0);rw [if_pos h0] at hd;simp (disch := omega) only [hz, hd, go_sem]
 · have hz : Cg i.1 i.2 = false := decide_eq_false fun e => h0 (Prod.ext e.1 e.2);rw [if_neg h0] at hd;simp (disch := omega) only [hz, go_sem];refine Aa (ho.at (by simp [A3, tn])) ?_;cases hA : E9 s.objs i with
   | none =>
     rw [hA] at hd;simp only at hd;have hol := E8 Alx;simp (disch := omega) only [Option.isSome_none, hol, hd, go_sem]
   | some o =>
     rw [hA] at hd;simp only at hd;have hol := E8 o;by_cases hdd : o.dir = true
     · rw [if_pos hdd] at hd;simp (disch := omega) only [Option.isSome_some, Option.getD_some, hol, Fc, hdd, hd, go_sem]
     · have hdd' : o.dir = false := by simpa using hdd
       rw [if_neg hdd] at hd;simp (disch := omega) only [Option.isSome_some, Option.getD_some, hol, Fc, hdd', hd, go_sem]
theorem Ae6 {e : Evt} (h : Bd e = true) (hk : e.kind = 3 ∨ e.kind = 4 ∨ e.kind = 5) : ∀ b ∈ e.base.l, Bg e.dep b.1 b.2 = true := by
 unfold Bd at h;simp only [Bool.and_eq_true, decide_eq_true_eq] at h;have hK := h.2.2.2;have key : ∀ m, Ef e.base.l m e.dep = true → ∀ b ∈ e.base.l, Bg e.dep b.1 b.2 = true := fun m hm b hb => by
  unfold Ef Hd at hm;simp only [Bool.and_eq_true, decide_eq_true_eq] at hm;obtain ⟨j, hj⟩ := List.mem_iff_getElem?.1 hb;obtain ⟨hlt, hg⟩ := List.getElem?_eq_some_iff.1 hj;have := (hm.2 j hlt).1;rw [hg] at this; exact this
 rcases hk with h3 | h3 | h3
 · rw [Ki h3] at hK;simp only [Bool.and_eq_true] at hK;exact key _ hK.2.1
 · rw [Oo h3] at hK;simp only [Bool.and_eq_true] at hK;exact key _ hK.2.1
 · rw [Om h3] at hK;simp only [Bool.and_eq_true] at hK;exact key _ hK.2.1
theorem Aes {a : Vc} {r : Int} {q : Nat} (h : Bg a r q = true) : 1 ≤ q ∧ 1 ≤ r ∧ r ≤ 8 ∧ q ≤ a (r - 1).toNat := by
 unfold Bg Hx at h;simp only [decide_eq_true_eq] at h;by_cases hr : 1 ≤ r ∧ r ≤ 8
 · rw [if_pos hr] at h; exact ⟨h.1, hr.1, hr.2, h.2⟩
 · rw [if_neg hr] at h; omega
def Ao3 (s : St) (e : Evt) (o : Obj) (k : Nat) : FS := mk [(7, .pv (.i .i64 k)), (2, .p 2 0), (3, .p 3 0), (5, .p 5 0), (4, .pv (.i .i64 0))] [(2, some (.var (.agg (Ba s)))), (3, some (.var (.vec 21 (Bc e)))), (5, some (.var (.vec 15 (Aq o))))]
set_option maxHeartbeats 8000000 in
theorem A6r {s : St} {e : Evt} (hs : StIn s) (he : ev e) (hdep : ∀ i, i < 8 → e.dep i < 4294967296) {h d} : FunOk Tryz.prog 50 [.agg (Ba s), .vec 21 (Bc e)] h d (.pv (.i .i64 (Ew s e))) [] := by
 refine Al Af fn50 (by simp) rfl rfl fun F => ?_;have a1 := hs.fine.on;have hS : Ba s = [.vec 8 (vE s.known), .pv (.sl false 15 (s.objs.map Aq)), .pv (.sl false 15 (s.ents.map Bq)), .vec 8 (iE s.wards), .vec 8 (wE s.ret)] := rfl;have hO := Ai9 (s := s) (Ay e) hs.so (by omega) (h := fun _ => none) (d := 0);have hD := Aw7 (s := s) (Ho e) hs.so (by omega) (h := fun _ => none) (d := 0);rw [hS] at hO hD;simp (disch := omega) only [ir50, Ba, A6, Bh, go_sem];refine Aa (Ad1 e he hdep) ?_;by_cases hc' : Bd e = false
 · have hw : Ew s e = 7 := if_pos hc';simp (disch := omega) only [hc', hw, go_sem]
 have hc : Bd e = true := by simpa using hc'
 have hb := Cx hc;obtain ⟨b1, b2, b3, b4, b5, b6, b7⟩ := hb;simp (disch := omega) only [hc, Aw, Fa, go_sem];refine Aa (Nh _ _ _) ?_;by_cases h1 : Bg s.known e.rep e.seq = true
 · have hw : Ew s e = 11 := by unfold Ew; rw [if_neg hc', if_pos h1]
   simp (disch := omega) only [h1, hw, go_sem]
 have h1' : Bg s.known e.rep e.seq = false := by simpa using h1
 simp (disch := omega) only [h1', Fa, go_sem];refine Aa (Agp _ _) ?_;by_cases h2 : Mz e.dep s.known;rotate_left
 · have hw : Ew s e = 10 := by unfold Ew; rw [if_neg hc', if_neg h1, if_pos h2]
   have h2' := decide_eq_false h2;simp (disch := omega) only [h2', hw, go_sem]
 have h2' := decide_eq_true h2;obtain ⟨k, hk8, hre⟩ : ∃ k : Nat, k < 8 ∧ e.rep - 1 = k := ⟨(e.rep - 1).toNat, by omega, by omega⟩
 have hld := fun (a b : PV) (w : Nat → Int) (r : Nat → Bool) (K : KK) => Ajq a b w r hk8 K;simp (disch := omega) only [h2', Dd, hre, hld, go_sem];by_cases h3 : s.ret k = true
 · have hw : Ew s e = 28 := by unfold Ew; rw [if_neg hc', if_neg h1, if_neg (by simpa using h2), if_pos (by rw [hre]; exact h3)]
   simp (disch := omega) only [h3, hw, go_sem]
 have h3' : s.ret k = false := by simpa using h3
 have hw : Ew s e = Ur s e := by unfold Ew; rw [if_neg hc', if_neg h1, if_neg (by simpa using h2), if_neg (by rw [hre]; exact h3)]
 unfold Ur at hw;by_cases h89 : e.kind = 8 ∨ e.kind = 9
 · rw [if_pos h89] at hw;rcases h89 with h8 | h9
   · simp (disch := omega) only [h3', Ag, h8, hw, go_sem]
   · have n8 : ¬ e.kind = 8 := by omega
     simp (disch := omega) only [h3', Ag, n8, h9, hw, go_sem]
 rw [if_neg h89] at hw;have n8 : ¬ e.kind = 8 := fun q => h89 (.inl q);have n9 : ¬ e.kind = 9 := fun q => h89 (.inr q);by_cases h12 : e.kind = 1 ∨ e.kind = 2
 · rw [if_pos h12] at hw;rcases h12 with h1k | h2k
   · simp (disch := omega) only [h3', Ag, n8, n9, h1k, Dj, go_sem];refine Aa (hD.at (by simp [A3, tn])) ?_;simp (disch := omega) only [hw, go_sem]
   · have n1 : ¬ e.kind = 1 := by omega
     simp (disch := omega) only [h3', Ag, n8, n9, n1, h2k, Dj, go_sem];refine Aa (hD.at (by simp [A3, tn])) ?_;simp (disch := omega) only [hw, go_sem]
 rw [if_neg h12] at hw;have n1 : ¬ e.kind = 1 := fun q => h12 (.inl q);have n2 : ¬ e.kind = 2 := fun q => h12 (.inr q);simp (disch := omega) only [h3', Ag, n8, n9, n1, n2, A7, go_sem];refine Aa (hO.at (by simp [A3, tn])) ?_;cases hA : E9 s.objs (Ay e) with
 | none =>
   rw [hA] at hw;simp only at hw;have hol := E8 Alx;simp (disch := omega) only [Option.isSome_none, Option.getD_none, hol, hw, go_sem]
 | some o =>
   rw [hA] at hw;simp only at hw;have hol := E8 o;by_cases h7 : e.kind = 7
   · rw [if_pos h7] at hw;simp (disch := omega) only [Option.isSome_some, Option.getD_some, hol, Ag, h7, Dj, go_sem];refine Aa (hD.at (by simp [A3, tn])) ?_;simp (disch := omega) only [hw, go_sem]
   rw [if_neg h7] at hw;by_cases h6 : e.kind = 6
   · rw [if_pos h6] at hw;simp (disch := omega) only [Option.isSome_some, Option.getD_some, hol, Ag, h7, h6, hw, go_sem]
   rw [if_neg h6] at hw;by_cases hd : o.dir = true
   · rw [if_pos hd] at hw;simp (disch := omega) only [Option.isSome_some, Option.getD_some, hol, Ag, h7, h6, Fc, hd, hw, go_sem]
   rw [if_neg hd] at hw;have hd' : o.dir = false := by simpa using hd
   have hk345 : e.kind = 3 ∨ e.kind = 4 ∨ e.kind = 5 := by omega
   have hb1 := Ae6 hc hk345;have hbl := Pg hc hk345;have hom := List.mem_of_getElem? (G3 hA).1;have hov := hs.fine.ov o hom;have hpv : e.base.pv = .sl e.base.f e.base.z (e.base.l.map Ed) := rfl;simp (disch := omega) only [Option.isSome_some, Option.getD_some, hol, Ag, h7, h6, Fc, hd', go_sem];refine A0 Af (Ao3 s e o) (fun k => k ≤ e.base.l.length ∧ ∀ j b, j < k → e.base.l[j]? = some b → Bp o.vers b.1 b.2 ≠ none) (fun k => e.base.l.length - k) 0 ⟨by simp, fun j b hj => absurd hj (Nat.not_lt_zero j)⟩ (Ah ?_ ?_) fun k hk => ?_
   · simp (disch := omega) only [go_sem]
   · simp (disch := omega) only [Ba, A6, go_sem]
   obtain ⟨hk1, hk2⟩ := hk;by_cases hlt : k < e.base.l.length
   · have hx : e.base.l[k]? = some e.base.l[k] := List.getElem?_eq_getElem hlt;have hel : (e.base.l.map Ed)[k]? = some (Ed e.base.l[k]) := by rw [List.getElem?_map, hx]; rfl
     have hz2 : e.base.z = 2 := he.2.1.resolve_left fun q => by rw [q] at hlt; simp at hlt
     have hbm := List.getElem_mem hlt;have hbz := Aes (hb1 _ hbm);generalize e.base.l[k] = b at *;have hnz : ¬ (b.1 = 0 ∧ b.2 = 0) := by omega
     simp (disch := omega) only [Ao3, Ba, A6, Fh, hpv, List.length_map, hz2, hel, Ek, Fv, go_sem];refine Aa (Ajd (l := o.vers) b.1 b.2 rfl rfl (by omega)) ?_;cases hf : Bp o.vers b.1 b.2 with
     | none =>
       have hm : Di o.vers e.base.l := ⟨b, hbm, hf⟩
       rw [if_pos hm] at hw;have hdv := Rs hnz hf;simp (disch := omega) only [hdv, hw, go_sem]
     | some v =>
       have hdv := Mh hnz hf;simp (disch := omega) only [hdv, go_sem];refine Ad (k + 1) _ _ rfl ⟨by omega, fun j c hj hjc => ?_⟩ (by omega) ?_ ?_
       · by_cases ej : j = k
         · subst ej; rw [hx] at hjc; cases hjc; rw [hf]; simp
         · exact hk2 j c (by omega) hjc
       · simp (disch := omega) only [go_sem]
       · simp (disch := omega) only [Ba, A6, go_sem]
   · obtain rfl : k = e.base.l.length := by omega
     have hm : ¬ Di o.vers e.base.l := fun ⟨b, hbm, hf⟩ => by
      obtain ⟨j, hj⟩ := List.mem_iff_getElem?.1 hbm;exact hk2 j b (List.getElem?_eq_some_iff.1 hj).1 hj hf
     rw [if_neg hm] at hw;simp (disch := omega) only [Ao3, Ba, A6, Fh, hpv, List.length_map, hw, go_sem]
def vid (v : Ver) : Bn := (v.rep, v.seq)
def Pc (bs : List Bn) (r : Int) (q : Nat) (x : Ver) : Ver := if (x.rep, x.seq) ∈ bs then Et x r q else x
theorem Abq (l : List Ver) (bs : List Bn) (r : Int) (q : Nat) : Dw l bs r q = l.map (Pc bs r q) := rfl
theorem Aea (bs : List Bn) (r : Int) (q : Nat) (x : Ver) : vid (Pc bs r q x) = vid x := by
 have := Gx x bs r q;simp only [vid, Pc, this.1, this.2]
theorem Arw {l : List Ver} {bs : List Bn} {v x : Ver} : x ∈ Fk l bs v ↔ x = v ∨ ∃ y ∈ l, x = Pc bs v.rep v.seq y := by
 unfold Fk;rw [Abq];have h : ∀ p, x ∈ (l.map (Pc bs v.rep v.seq)).take p ++ v :: (l.map (Pc bs v.rep v.seq)).drop p ↔ x = v ∨ x ∈ l.map (Pc bs v.rep v.seq) := fun p => by
  conv => rhs; rw [← List.take_append_drop p (l.map (Pc bs v.rep v.seq))]
  simp only [List.mem_append, List.mem_cons];constructor
  · rintro (h | h | h)
    · exact .inr (.inl h)
    · exact .inl h
    · exact .inr (.inr h)
  · rintro (h | h | h)
    · exact .inr (.inl h)
    · exact .inl h
    · exact .inr (.inr h)
 rw [h, List.mem_map];exact or_congr_right ⟨fun ⟨y, h1, h2⟩ => ⟨y, h1, h2.symm⟩, fun ⟨y, h1, h2⟩ => ⟨y, h1, h2.symm⟩⟩
theorem Auj {l : List Ver} {r : Int} {q : Nat} (h : Bp l r q = none) : ∃ p, Qd l r q 0 = (p, false) := by
 rcases ha : Qd l r q 0 with ⟨p, b⟩
 cases b with
 | false => exact ⟨p, rfl⟩
 | true => obtain ⟨_, u, _, _, h4⟩ := Iw ha; rw [h] at h4; cases h4
theorem Afk {l : List Ver} {bs : List Bn} {v : Ver} (hs : Cu l) (h : Bp l v.rep v.seq = none) : Cu (Fk l bs v) := by
 obtain ⟨p, hp⟩ := Auj h;obtain ⟨_, g2, g3, g4, g5, g6⟩ := H8 hs hp;rw [Nat.sub_zero] at g2 g5 g6;have hM := Q1 (bs := bs) (r := v.rep) (q := v.seq) hs;unfold Fk;rw [hp];simp only;have h5 : ∀ x ∈ (Dw l bs v.rep v.seq).take p, Cl x.rep x.seq v.rep v.seq = true := fun x hx => by
  rw [Abq, ← List.map_take] at hx;obtain ⟨y, hy, rfl⟩ := List.mem_map.1 hx;have := Aea bs v.rep v.seq y;simp only [vid, Prod.mk.injEq] at this;rw [this.1, this.2]; exact g5 y hy
 have h6 : ∀ x ∈ (Dw l bs v.rep v.seq).drop p, Cl v.rep v.seq x.rep x.seq = true := fun x hx => by
  rw [Abq, ← List.map_drop] at hx;obtain ⟨y, hy, rfl⟩ := List.mem_map.1 hx;have := Aea bs v.rep v.seq y;simp only [vid, Prod.mk.injEq] at this;rw [this.1, this.2]; exact g6 y hy
 refine List.pairwise_append.2 ⟨List.Pairwise.sublist (List.take_sublist _ _) hM, List.pairwise_cons.2 ⟨h6, List.Pairwise.sublist (List.drop_sublist _ _) hM⟩, fun a ha b hb => ?_⟩;rcases List.mem_cons.1 hb with rfl | hb
 · exact h5 a ha
 · exact P3 (h5 a ha) (h6 b hb)
theorem O9 {α : Type} {P : List α → Prop} (h0 : P []) (h1 : ∀ l a, P l → P (l ++ [a])) : ∀ l, P l := by
 have key : ∀ n, ∀ l : List α, l.length = n → P l := by
  intro n
  induction n with
  | zero => intro l hl; rw [List.eq_nil_of_length_eq_zero hl]; exact h0
  | succ n ih =>
    intro l hl;have hne : l ≠ [] := fun e => by subst e; simp at hl
    rw [← List.dropLast_concat_getLast hne];exact h1 _ _ (ih _ (by simp [hl]))
 exact fun l => key _ l rfl
theorem Aa9 {α : Type} {r : α → α → Prop} (ha : ∀ a b, r a b → r b a → False) : ∀ {l m : List α}, l.Pairwise r → m.Pairwise r → (∀ a, a ∈ l ↔ a ∈ m) → l = m
 | [], [], _, _, _ => rfl
 | [], y :: m, _, _, h => by have := (h y).2 List.mem_cons_self; cases this
 | x :: l, [], _, _, h => by have := (h x).1 List.mem_cons_self; cases this
 | x :: l, y :: m, hl, hm, h => by
   obtain ⟨h1, h2⟩ := List.pairwise_cons.1 hl;obtain ⟨k1, k2⟩ := List.pairwise_cons.1 hm;have ex : x = y := by
    rcases List.mem_cons.1 ((h x).1 List.mem_cons_self) with a | a
    · exact a
    · rcases List.mem_cons.1 ((h y).2 List.mem_cons_self) with b | b
      · exact b.symm
      · exact (ha _ _ (h1 y b) (k1 x a)).elim
   subst ex;congr 1;refine Aa9 ha h2 k2 fun a => ?_;have ne : ∀ {n : List α}, (∀ b ∈ n, r x b) → x ∉ n := fun hn hx => ha x x (hn x hx) (hn x hx);constructor
   · intro hq;rcases List.mem_cons.1 ((h a).1 (List.mem_cons_of_mem _ hq)) with e | e
     · subst e; exact absurd hq (ne h1)
     · exact e
   · intro hq;rcases List.mem_cons.1 ((h a).2 (List.mem_cons_of_mem _ hq)) with e | e
     · subst e; exact absurd hq (ne k1)
     · exact e
theorem Od {l m : List Ent} (hl : Ds l) (hm : Ds m) (h : ∀ x, x ∈ l ↔ x ∈ m) : l = m := Aa9 (fun a b h k => Nq h k) hl hm h
theorem Y4 {l m : List Ver} (hl : Cu l) (hm : Cu m) (h : ∀ x, x ∈ l ↔ x ∈ m) : l = m := Aa9 (fun a b h k => Nq (a := (a.rep, a.seq)) (b := (b.rep, b.seq)) h k) hl hm h
theorem Wm {l : List Obj} : En l ↔ l.Pairwise fun a b => Ic a.id b.id = true := by
 unfold En Ds; rw [List.pairwise_map]; exact Iff.rfl
theorem Sn {l m : List Obj} (hl : En l) (hm : En m) (h : ∀ x, x ∈ l ↔ x ∈ m) : l = m := Aa9 (fun a b h k => Nq h k) (Wm.1 hl) (Wm.1 hm) h
structure Acc (s : St) (e : Evt) : Prop where
 ck : Bd e = true
 new : Bg s.known e.rep e.seq = false
 dep : Mz e.dep s.known
 ret : s.ret (e.rep - 1).toNat = false
 why : Ur s e = 0
theorem Mo {s : St} {e : Evt} : Ew s e = 0 ↔ Acc s e := by
 unfold Ew;constructor
 · intro h;split at h
   · cases h
   · split at h
     · cases h
     · split at h
       · cases h
       · split at h
         · cases h
         · rename_i h1 h2 h3 h4;exact ⟨by simpa using h1, by simpa using h2, by simpa using h3, by simpa using h4, h⟩
 · intro ⟨h1, h2, h3, h4, h5⟩;rw [if_neg (by rw [h1]; simp), if_neg (by rw [h2]; simp), if_neg (fun q => q h3), if_neg (by rw [h4]; simp)];exact h5
inductive Val : List Evt → Prop
 | nil : Val []
 | snoc {l : List Evt} {e : Evt} : Val l → ev e → Ew (Ap l) e = 0 → Val (l ++ [e])
theorem D5 (l : List Evt) : (Ap l).known = Bi l := (Afa l l).2
theorem Ow (l : List Evt) : (Ap l).ents = C2 l l := (Afa l l).1
theorem Val.inv {l : List Evt} {e : Evt} (h : Val (l ++ [e])) : Val l ∧ ev e ∧ Ew (Ap l) e = 0 := by
 generalize hm : l ++ [e] = m at h;cases h with
 | nil => simp at hm
 | snoc a b c =>
   obtain ⟨rfl, h2⟩ := List.append_inj' hm rfl;cases h2;exact ⟨a, b, c⟩
theorem Val.pre {l m : List Evt} : Val (l ++ m) → Val l :=
 O9 (P := fun m => Val (l ++ m) → Val l) (fun h => by simpa using h) (fun m e ih h => by
  rw [← List.append_assoc] at h;exact ih h.inv.1) m
theorem Nr {a : Vc} {i : Bn} : Bg a i.1 i.2 = true ↔ 1 ≤ i.2 ∧ 1 ≤ i.1 ∧ i.1 ≤ 8 ∧ i.2 ≤ a (i.1 - 1).toNat := by
 refine ⟨Aes, fun ⟨h1, h2, h3, h4⟩ => ?_⟩;unfold Bg Hx; rw [if_pos ⟨h2, h3⟩]; exact decide_eq_true ⟨h1, h4⟩
theorem Qh {v : Vc} {r : Int} {q : Nat} (hr : 1 ≤ r ∧ r ≤ 8) (i : Nat) : A8 v r q i = if i = (r - 1).toNat then max (v i) q else v i := by
 unfold A8 D4; rw [if_pos hr]; split
 · rename_i h; rw [h]
 · rfl
theorem Uy {v : Vc} {r : Int} {q : Nat} (i : Nat) : v i ≤ A8 v r q i := by
 by_cases hr : 1 ≤ r ∧ r ≤ 8
 · rw [Qh hr]; split <;> omega
 · unfold A8; rw [if_neg hr]; exact Nat.le_refl _
theorem Xp {a b : Vc} (h : ∀ i, i < 8 → a i ≤ b i) {i : Bn} (k : Bg a i.1 i.2 = true) : Bg b i.1 i.2 = true := by
 rw [Nr] at k ⊢;have := h (i.1 - 1).toNat (by omega);omega
theorem Afl {s : St} {e : Evt} (h : Acc s e) : 1 ≤ e.rep ∧ e.rep ≤ 8 ∧ e.seq = s.known (e.rep - 1).toNat + 1 := by
 obtain ⟨b1, b2, b3, b4, b5, b6, b7⟩ := Cx h.ck;have h1 := h.dep (e.rep - 1).toNat (by omega);have h2 : ¬ Bg s.known e.rep e.seq = true := by rw [h.new]; simp
 rw [show Bg s.known e.rep e.seq = Bg s.known (Ak e).1 (Ak e).2 from rfl, Nr] at h2;simp only at h2;omega
theorem Val.known {l : List Evt} (h : Val l) : NodE l ∧ ∀ i : Bn, Bg (Bi l) i.1 i.2 = true ↔ ∃ e ∈ l, Ak e = i := by
 induction h with
 | nil => exact ⟨List.nodup_nil, fun i => by rw [Nr]; simp [Bi]; omega⟩
 | @snoc l e hl he hw ih =>
   have ha := Mo.1 hw;obtain ⟨n1, n2, n3⟩ := Afl ha;have hb := Cx ha.ck;rw [D5] at n3;have hnew : ¬ ∃ f ∈ l, Ak f = Ak e := fun q => by
    have := (ih.2 (Ak e)).2 q;have h2 := ha.new;rw [D5] at h2;rw [show Bg (Bi l) (Ak e).1 (Ak e).2 = Bg (Bi l) e.rep e.seq from rfl, h2] at this;cases this
   refine ⟨?_, fun i => ?_⟩
   · unfold NodE;rw [List.map_append, List.nodup_append];refine ⟨ih.1, by simp, fun a hm b hb q => hnew ?_⟩;obtain ⟨f, hf, rfl⟩ := List.mem_map.1 hm;simp at hb;exact ⟨f, hf, by rw [q, hb]⟩
   · rw [Ip];have key : Bg (A8 (Bi l) e.rep e.seq) i.1 i.2 = true ↔ Bg (Bi l) i.1 i.2 = true ∨ i = Ak e := by
      rw [Nr, Nr, Qh ⟨n1, n2⟩];by_cases hi : i = Ak e
      · subst hi;simp only [or_true, iff_true];refine ⟨hb.2.2.1, n1, n2, ?_⟩;simp only [if_true]; exact Nat.le_max_right _ _
      · simp only [hi, or_false];by_cases hr : i.1 = e.rep
        · have hq : i.2 ≠ e.seq := fun q => hi (Prod.ext hr q);rw [hr, if_pos rfl];omega
        · constructor
          · rintro ⟨a, b, c, d⟩;rw [if_neg (by omega)] at d;exact ⟨a, b, c, d⟩
          · rintro ⟨a, b, c, d⟩;rw [if_neg (by omega)];exact ⟨a, b, c, d⟩
     rw [key, ih.2];constructor
     · rintro (⟨f, hf, q⟩ | q)
       · exact ⟨f, by simp [hf], q⟩
       · exact ⟨e, by simp, q.symm⟩
     · rintro ⟨f, hf, q⟩;rcases List.mem_append.1 hf with hf | hf
       · exact .inl ⟨f, hf, q⟩
       · rw [List.mem_singleton] at hf; subst hf; exact .inr q.symm
theorem Val.nod {l : List Evt} (h : Val l) : NodE l := h.known.1
theorem Val.has {l : List Evt} (h : Val l) {i : Bn} : Bg (Bi l) i.1 i.2 = true ↔ ∃ e ∈ l, Ak e = i := h.known.2 i
theorem Val.mem {l : List Evt} (h : Val l) {e : Evt} (he : e ∈ l) : ∃ a b, l = a ++ e :: b ∧ Val a ∧ ev e ∧ Acc (Ap a) e := by
 obtain ⟨a, b, rfl⟩ := List.append_of_mem he;have h2 : Val ((a ++ [e]) ++ b) := by rw [List.append_assoc]; exact h
 obtain ⟨h3, h4, h5⟩ := h2.pre.inv;exact ⟨a, b, rfl, h3, h4, Mo.1 h5⟩
theorem Ag2 (l m : List Evt) : Mz (Bi l) (Bi (l ++ m)) :=
 O9 (P := fun m => Mz (Bi l) (Bi (l ++ m))) (fun i _ => by simp) (fun m e ih i hi => by
  rw [← List.append_assoc, Ip];exact Nat.le_trans (ih i hi) (Uy i)) m
theorem Vu {l : List Evt} (h : Val l) {e : Evt} (ha : Acc (Ap l) e) {i : Bn} (k : Bg e.dep i.1 i.2 = true) : ∃ f ∈ l, Ak f = i := by
 refine h.has.1 (Xp (fun j hj => ?_) k);have := ha.dep j hj
 rwa [D5] at this
theorem Gz {l : List Evt} (h : Val l) {e : Evt} (ha : Acc (Ap l) e) : ∀ f ∈ l, Ak f ≠ Ak e := fun f hf q => by
 have h1 := h.has.2 ⟨f, hf, q⟩;have h2 := ha.new;rw [D5] at h2;rw [show Bg (Bi l) (Ak e).1 (Ak e).2 = Bg (Bi l) e.rep e.seq from rfl, h2] at h1;cases h1
theorem Ajx {e : Evt} {l : List Bn} {n : Int} (h : Ef l n e.dep = true) : ∀ b ∈ l, Bg e.dep b.1 b.2 = true := fun b hb => by
 unfold Ef Hd at h;simp only [Bool.and_eq_true, decide_eq_true_eq] at h;obtain ⟨j, hj⟩ := List.mem_iff_getElem?.1 hb;obtain ⟨hlt, hg⟩ := List.getElem?_eq_some_iff.1 hj;have := (h.2 j hlt).1;rw [hg] at this; exact this
theorem Nx {e : Evt} (h : Bd e = true) : Gh e = true ∧ Cs (Cq e) = true := by
 unfold Bd at h;simp only [Bool.and_eq_true, decide_eq_true_eq] at h;exact ⟨h.2.2.2, h.2.2.1⟩
theorem X3 {e : Evt} (h : Bd e = true) (hk : e.kind = 6 ∨ e.kind = 7) : ∀ b ∈ e.gone.l, Bg e.dep b.1 b.2 = true := by
 have hK := (Nx h).1;rcases hk with k | k
 · rw [Vg k] at hK; simp only [Bool.and_eq_true] at hK; exact Ajx hK.2
 · rw [Vf k] at hK; simp only [Bool.and_eq_true] at hK; exact Ajx hK.2.1
theorem Ano {e : Evt} (h : Bd e = true) (hk : e.kind = 3 ∨ e.kind = 4 ∨ e.kind = 5 ∨ e.kind = 6 ∨ e.kind = 7) : Bg e.dep e.orep e.oseq = true := by
 have hK := (Nx h).1;rcases hk with k | k | k | k | k
 · rw [Ki k] at hK; simp only [Bool.and_eq_true] at hK; exact hK.1
 · rw [Oo k] at hK; simp only [Bool.and_eq_true] at hK; exact hK.1
 · rw [Om k] at hK; simp only [Bool.and_eq_true] at hK; exact hK.1
 · rw [Vg k] at hK; simp only [Bool.and_eq_true] at hK; exact hK.1
 · rw [Vf k] at hK; simp only [Bool.and_eq_true] at hK; exact hK.1
theorem X2 {e : Evt} (h : Bd e = true) (hk : ¬ (e.kind = 3 ∨ e.kind = 4 ∨ e.kind = 5 ∨ e.kind = 6 ∨ e.kind = 7)) : Ay e = (0, 0) := by
 obtain ⟨b1, b2, b3, b4, b5, b6, b7⟩ := Cx h;have hz := (Nx h).2;have h4 : e.kind = 1 ∨ e.kind = 2 ∨ e.kind = 8 ∨ e.kind = 9 := by omega
 have hz' : Cg e.orep e.oseq = true := by
  rcases h4 with k | k | k | k
  · rw [Avl k] at hz; simp only [Am, Bool.and_eq_true, Bool.or_eq_true, Bool.false_eq_true, false_or] at hz; exact hz.1
  · rw [A0z k] at hz; simp only [Am, Bool.and_eq_true, Bool.or_eq_true, Bool.false_eq_true, false_or] at hz; exact hz.1
  · rw [A0y k] at hz; simp only [Am, Bool.and_eq_true, Bool.or_eq_true, Bool.false_eq_true, false_or] at hz; exact hz.1
  · rw [A0x k] at hz; simp only [Am, Bool.and_eq_true, Bool.or_eq_true, Bool.false_eq_true, false_or] at hz; exact hz.1
 obtain ⟨h1, h2⟩ := of_decide_eq_true hz';exact Prod.ext h1 h2
theorem Axg {l : List Evt} {e : Evt} (h : Val l) (ha : Acc (Ap l) e) (obj : Bn) {g : Evt} (hg : g ∈ l ++ [e]) : Hz g obj (Ak e) = false := by
 cases hq : Hz g obj (Ak e) with
 | false => rfl
 | true =>
   unfold Hz at hq;simp only [Bool.and_eq_true, decide_eq_true_eq] at hq;rcases List.mem_append.1 hg with hg | hg
   · obtain ⟨a, b, rfl, h1, _, h3⟩ := h.mem hg;obtain ⟨f, hf, hi⟩ := Vu h1 h3 (X3 h3.ck hq.1 _ hq.2.2);exact absurd hi (Gz h ha f (by simp [hf]))
   · rw [List.mem_singleton] at hg; subst hg;obtain ⟨f, hf, hi⟩ := Vu h ha (X3 ha.ck hq.1 _ hq.2.2);exact absurd hi (Gz h ha f hf)
theorem Ark {l : List Evt} {e : Evt} (h : Val l) (ha : Acc (Ap l) e) {g : Evt} (hg : g ∈ l ++ [e]) : Ay g ≠ Ak e := fun q => by
 have base := Cx ha.ck;have hne : ∀ {g : Evt}, Bd g = true → Ay g = Ak e → Bg g.dep g.orep g.oseq = true := fun {g} hc q => by
  refine Ano hc (Classical.byContradiction fun hk => ?_);have := X2 hc hk;rw [this] at q;have q1 : (0 : Int) = e.rep := congrArg Prod.fst q;have := base.1;omega
 rcases List.mem_append.1 hg with hg | hg
 · obtain ⟨a, b, rfl, h1, _, h3⟩ := h.mem hg;obtain ⟨f, hf, hi⟩ := Vu h1 h3 (i := Ay g) (hne h3.ck q);rw [q] at hi;exact absurd hi (Gz h ha f (by simp [hf]))
 · rw [List.mem_singleton] at hg; subst hg;obtain ⟨f, hf, hi⟩ := Vu h ha (i := Ay g) (hne ha.ck q);rw [q] at hi;exact absurd hi (Gz h ha f hf)
theorem S5 {l : List Evt} : ∀ m : List Evt, NodE m → Ds (C2 l m) ∧ ∀ x, x ∈ C2 l m ↔ ∃ e ∈ m, mkB e = true ∧ x = Da l e := by
 refine O9 (fun _ => ⟨List.Pairwise.nil, by simp [C2]⟩) fun m e ih hn => ?_;have hn' : NodE m := by unfold NodE at *; rw [List.map_append] at hn; exact hn.sublist (List.sublist_append_left _ _)
 obtain ⟨h1, h2⟩ := ih hn';have grow : ∀ x : Ent, (∃ f ∈ m ++ [e], mkB f = true ∧ x = Da l f) ↔ (∃ f ∈ m, mkB f = true ∧ x = Da l f) ∨ (mkB e = true ∧ x = Da l e) := fun o => by
  simp only [List.mem_append, List.mem_singleton];constructor
  · rintro ⟨f, hf | rfl, h⟩
    · exact .inl ⟨f, hf, h⟩
    · exact .inr h
  · rintro (⟨f, hf, h⟩ | h)
    · exact ⟨f, .inl hf, h⟩
    · exact ⟨e, .inr rfl, h⟩
 rw [P7];by_cases hm : mkB e = true
 · rw [if_pos hm, Y8 h1];have hnew : Hu (C2 l m) (Da l e).id = none := F9.2 fun x hx q => by
    obtain ⟨f, hf, _, rfl⟩ := (h2 x).1 hx;unfold NodE at hn;rw [List.map_append, List.nodup_append] at hn;exact hn.2.2 (Ak f) (List.mem_map_of_mem hf) (Ak e) (by simp) q
   have e1 : Agi (C2 l m) (Da l e) = O3 (C2 l m) (Da l e) := by
    unfold Agi; rw [if_neg (by rw [Ajw.2 hnew]; simp)]
   rw [e1];refine ⟨Wj h1 hnew, fun x => ?_⟩;rw [Abp, h2, grow];exact ⟨fun q => q.elim (fun q => .inr ⟨hm, q⟩) .inl, fun q => q.elim .inr fun q => .inl q.2⟩
 · rw [if_neg hm];refine ⟨h1, fun x => ?_⟩;rw [h2, grow];exact ⟨.inl, fun q => q.resolve_right fun q => hm q.1⟩
theorem Ag6 (b : Bn) (x : Ent) : Nn b (Nn b x) = Nn b x := by
 unfold Nn; simp only [Acx, Afs]
theorem Zv (e : Evt) : ∀ (m l : List Ent), Fj e l m = l.map fun x => if m.any (fun y => decide (y.id = x.id) && Eu e y) = true then Nn (Ak e) x else x
 | [], l => by simp [Fj]
 | y :: m, l => by
   have ih := Zv e m (if Eu e y = true then killL l y.id (Ak e) else l);unfold Fj at ih ⊢;simp only [List.foldl_cons];rw [ih];split
   · rename_i hg;unfold killL Uv;rw [List.map_map];refine List.map_congr_left fun x hx => ?_;simp only [Function.comp];by_cases hy : x.id = y.id
     · simp only [if_pos hy];have e2 : List.any (y :: m) (fun z => decide (z.id = x.id) && Eu e z) = true := by simp [hy, hg]
       rw [if_pos e2];split
       · exact Ag6 _ _
       · rfl
     · simp only [if_neg hy];have e2 : List.any (y :: m) (fun z => decide (z.id = x.id) && Eu e z) = List.any m (fun z => decide (z.id = x.id) && Eu e z) := by
        rw [List.any_cons, decide_eq_false (fun q : y.id = x.id => hy q.symm), Bool.false_and, Bool.false_or]
       rw [e2]
   · rename_i hg;refine List.map_congr_left fun x hx => ?_;have e2 : List.any (y :: m) (fun z => decide (z.id = x.id) && Eu e z) = List.any m (fun z => decide (z.id = x.id) && Eu e z) := by
      simp [show Eu e y = false by simpa using hg]
     rw [e2]
theorem Asy {e : Evt} {l : List Ent} (hs : Ds l) : Fj e l l = l.map fun x => if Eu e x = true then Nn (Ak e) x else x := by
 rw [Zv];refine List.map_congr_left fun x hx => ?_;have : l.any (fun y => decide (y.id = x.id) && Eu e y) = Eu e x := by
  rw [Bool.eq_iff_iff, List.any_eq_true];constructor
  · rintro ⟨y, hy, h⟩;simp only [Bool.and_eq_true, decide_eq_true_eq] at h;have h1 := Aec hs hy;have h2 := Aec hs hx;rw [h.1] at h1;rw [h1] at h2; cases h2;exact h.2
  · exact fun h => ⟨x, hx, by simp [h]⟩
 rw [this]
theorem Azn {l : List Evt} {e : Evt} (h : Val l) (ha : Acc (Ap l) e) (obj : Bn) : byG (l ++ [e]) obj (Ak e) = fun _ => 0 := by
 unfold byG;have : ∀ m : List Evt, (∀ g ∈ m, Hz g obj (Ak e) = false) → m.foldl (fun g f => if Hz f obj (Ak e) = true then A8 g f.rep f.seq else g) (fun _ => 0 : Vc) = fun _ => 0 := fun m hm => by
  induction m with
  | nil => rfl
  | cons g m ih =>
    rw [List.foldl_cons, if_neg (by rw [hm g List.mem_cons_self]; simp)];exact ih fun f hf => hm f (List.mem_cons_of_mem _ hf)
 exact this _ fun g hg => Axg h ha obj hg
theorem Ato {l : List Evt} {e : Evt} (h : Val l) (ha : Acc (Ap l) e) : Da (l ++ [e]) e = Gj e (Ey e) := by
 unfold Da Gj; rw [Azn h ha]
theorem Xw (l : List Evt) (e f : Evt) : Da (l ++ [e]) f = if Hz e (Ey f) (Ak f) = true then Nn (Ak e) (Da l f) else Da l f := by
 unfold Da;rw [Ry];split
 · unfold Nn; simp only;rw [show A8 (byG l (Ey f) (Ak f)) e.rep e.seq = A8 (byG l (Ey f) (Ak f)) (Ak e).1 (Ak e).2 from rfl, Acv]
 · rfl
theorem Xr (l : List Evt) (e f : Evt) (hk : e.kind = 6 ∨ e.kind = 7) : Hz e (Ey f) (Ak f) = Eu e (Da l f) := by
 unfold Hz Eu Da;simp only [hk, decide_true, Bool.true_and];congr 1;exact decide_eq_decide.2 ⟨Eq.symm, Eq.symm⟩
theorem Anb {l : List Evt} {e : Evt} (h : Val l) (ha : Acc (Ap l) e) :
 C2 (l ++ [e]) (l ++ [e]) = if e.kind = 1 ∨ e.kind = 2 then R1 (C2 l l) (Gj e (Ak e)) else if e.kind = 7 then R1 (Fj e (C2 l l) (C2 l l)) (Gj e (Ay e)) else if e.kind = 6 then Fj e (C2 l l) (C2 l l) else C2 l l := by
 have hn := h.nod;have hn2 : NodE (l ++ [e]) := by
  unfold NodE;rw [List.map_append, List.nodup_append];refine ⟨hn, by simp, fun a hm b hb q => ?_⟩;obtain ⟨f, hf, rfl⟩ := List.mem_map.1 hm;simp at hb;exact Gz h ha f hf (by rw [q, hb])
 obtain ⟨s1, m1⟩ := S5 (l := l) l hn;obtain ⟨s2, m2⟩ := S5 (l := l ++ [e]) (l ++ [e]) hn2;have hlook : ∀ {m : List Ent}, (∀ x ∈ m, ∃ f ∈ l, x.id = Ak f) → Hu m (Ak e) = none := fun hm => F9.2 fun x hx q => by
  obtain ⟨f, hf, hi⟩ := hm x hx;exact Gz h ha f hf (by rw [← hi, q])
 have hadd : ∀ {m : List Ent} {o : Bn}, Ds m → (∀ x ∈ m, ∃ f ∈ l, x.id = Ak f) → Ds (R1 m (Gj e o)) ∧ ∀ x, x ∈ R1 m (Gj e o) ↔ x = Gj e o ∨ x ∈ m := fun {m o} hs hm => by
  have hl := hlook hm;have e1 : R1 m (Gj e o) = O3 m (Gj e o) := by unfold R1; rw [if_neg (by rw [show Ra m (Gj e o).id = false from Ajw.2 hl]; simp)]
  rw [e1];exact ⟨Wj hs hl, fun x => Abp⟩
 have hold : ∀ x ∈ C2 l l, ∃ f ∈ l, x.id = Ak f := fun x hx => by
  obtain ⟨f, hf, _, rfl⟩ := (m1 x).1 hx; exact ⟨f, hf, rfl⟩
 have hgone := Mb (e := e) s1 (C2 l l);have hgeq := Asy (e := e) s1;have hgold : ∀ x ∈ Fj e (C2 l l) (C2 l l), ∃ f ∈ l, x.id = Ak f := fun x hx => by
  rw [hgeq] at hx;obtain ⟨y, hy, rfl⟩ := List.mem_map.1 hx;obtain ⟨f, hf, hi⟩ := hold y hy;refine ⟨f, hf, ?_⟩;split <;> exact hi
 have mG : (e.kind = 6 ∨ e.kind = 7) → ∀ x, x ∈ Fj e (C2 l l) (C2 l l) ↔ ∃ f ∈ l, mkB f = true ∧ x = Da (l ++ [e]) f := fun hk x => by
  rw [hgeq, List.mem_map];constructor
  · rintro ⟨y, hy, rfl⟩;obtain ⟨f, hf, hm, rfl⟩ := (m1 y).1 hy;exact ⟨f, hf, hm, by rw [Xw, Xr l e f hk]⟩
  · rintro ⟨f, hf, hm, rfl⟩;exact ⟨Da l f, (m1 _).2 ⟨f, hf, hm, rfl⟩, by rw [Xw, Xr l e f hk]⟩
 have mN : ¬ (e.kind = 6 ∨ e.kind = 7) → ∀ x, x ∈ C2 l l ↔ ∃ f ∈ l, mkB f = true ∧ x = Da (l ++ [e]) f := fun hk x => by
  rw [m1];have : ∀ f, Da (l ++ [e]) f = Da l f := fun f => by
   rw [Xw, if_neg (by unfold Hz; simp [hk])]
  exact ⟨fun ⟨f, a, b, c⟩ => ⟨f, a, b, by rw [this, c]⟩, fun ⟨f, a, b, c⟩ => ⟨f, a, b, by rw [← this, c]⟩⟩
 have grow : ∀ x : Ent, (∃ f ∈ l ++ [e], mkB f = true ∧ x = Da (l ++ [e]) f) ↔ (mkB e = true ∧ x = Gj e (Ey e)) ∨ (∃ f ∈ l, mkB f = true ∧ x = Da (l ++ [e]) f) := fun x => by
  rw [← Ato h ha];simp only [List.mem_append, List.mem_singleton];constructor
  · rintro ⟨f, hf | rfl, h⟩
    · exact .inr ⟨f, hf, h⟩
    · exact .inl h
  · rintro (h | ⟨f, hf, h⟩)
    · exact ⟨e, .inr rfl, h⟩
    · exact ⟨f, .inl hf, h⟩
 by_cases h12 : e.kind = 1 ∨ e.kind = 2
 · rw [if_pos h12];have hm : mkB e = true := decide_eq_true (by omega);have ho : Ey e = Ak e := if_neg (by omega);obtain ⟨a1, a2⟩ := hadd (o := Ak e) s1 hold;refine Od s2 a1 fun x => ?_;rw [m2, grow, a2, mN (by omega), ho];simp [hm]
 rw [if_neg h12];by_cases h7 : e.kind = 7
 · rw [if_pos h7];have hm : mkB e = true := decide_eq_true (by omega);have ho : Ey e = Ay e := if_pos h7;obtain ⟨a1, a2⟩ := hadd (o := Ay e) hgone hgold;refine Od s2 a1 fun x => ?_;rw [m2, grow, a2, mG (.inr h7), ho];simp [hm]
 rw [if_neg h7];have hm : mkB e = false := decide_eq_false (by omega);by_cases h6 : e.kind = 6
 · rw [if_pos h6];refine Od s2 hgone fun x => ?_;rw [m2, grow, mG (.inl h6)];simp [hm]
 · rw [if_neg h6];refine Od s2 s1 fun x => ?_;rw [m2, grow, mN (by omega)];simp [hm]
theorem N8 {l : List Evt} {e : Evt} (h : Val l) (ha : Acc (Ap l) e) : NodE (l ++ [e]) := by
 unfold NodE;rw [List.map_append, List.nodup_append];refine ⟨h.nod, by simp, fun a hm b hb q => ?_⟩;obtain ⟨f, hf, rfl⟩ := List.mem_map.1 hm;simp at hb;exact Gz h ha f hf (by rw [q, hb])
theorem Zz {l : List Evt} (hn : NodE l) {e : Evt} (he : e ∈ l) : Ir l (Ak e) = some e := by
 unfold Ir
 induction l with
 | nil => cases he
 | cons f l ih =>
   unfold NodE at hn;rw [List.map_cons, List.nodup_cons] at hn;rw [List.find?_cons];rcases List.mem_cons.1 he with rfl | he
   · simp
   · have : Ak f ≠ Ak e := fun q => hn.1 (q ▸ List.mem_map_of_mem he);rw [decide_eq_false this];exact ih hn.2 he
theorem Am8 {l : List Evt} {i : Bn} (t : List Evt) (h : ∃ f ∈ l, Ak f = i) : Ir (l ++ t) i = Ir l i := by
 obtain ⟨f, hf, hi⟩ := h;unfold Ir;rw [List.find?_append];cases hq : List.find? (fun e => decide (Ak e = i)) l with
 | some x => rfl
 | none => exact absurd hi (by simpa using List.find?_eq_none.1 hq f hf)
theorem S4 (l : List Evt) (e : Evt) : ∀ m : List Evt, (C8 l m e).vers = Cy l (Ak e) l :=
 O9 rfl fun m f ih => by
  rw [Jo];unfold D8;split
  · split
    · split <;> exact ih
    · split <;> exact ih
  · exact ih
theorem Q0 {l : List Evt} (hn : NodE l) : En (Ap l).objs ∧ (Ap l).objs.length ≤ l.length ∧ ∀ o, o ∈ (Ap l).objs ↔ ∃ e ∈ l, (e.kind = 1 ∨ e.kind = 2) ∧ o = C8 l l e := Rz l.length l rfl hn
theorem Agw {l : List Obj} {i : Bn} {o : Obj} (h : E9 l i = some o) : o ∈ l ∧ o.id = i := ⟨List.mem_of_getElem? (G3 h).1, (G3 h).2⟩
theorem R2 {l : List Evt} {e : Evt} (h : Val l) (ha : Acc (Ap l) e) (hk : e.kind = 3 ∨ e.kind = 4 ∨ e.kind = 5 ∨ e.kind = 6 ∨ e.kind = 7) : ∃ f ∈ l, (f.kind = 1 ∨ f.kind = 2) ∧ Ak f = Ay e ∧ E9 (Ap l).objs (Ay e) = some (C8 l l f) ∧ (Pk e = true → (C8 l l f).dir = false ∧ ¬ Di (Cy l (Ay e) l) e.base.l) := by
 have hw := ha.why;unfold Ur at hw;rw [if_neg (by omega), if_neg (by omega)] at hw;cases ho : E9 (Ap l).objs (Ay e) with
 | none => rw [ho] at hw; cases hw
 | some o =>
   rw [ho] at hw;obtain ⟨h1, h2⟩ := Agw ho;obtain ⟨f, hf, hk12, rfl⟩ := ((Q0 h.nod).2.2 o).1 h1;have h2' : Ak f = Ay e := by rw [← Jf l f l]; exact h2
   refine ⟨f, hf, hk12, h2', rfl, fun hwr => ?_⟩;have hk3 := of_decide_eq_true hwr;simp only at hw;rw [if_neg (by omega), if_neg (by omega)] at hw;split at hw
   · cases hw
   · split at hw
     · cases hw
     · rename_i hd hm;rw [S4, h2'] at hm;exact ⟨by simpa using hd, hm⟩
theorem J2 {l : List Evt} {e : Evt} (h : Val l) (ha : Acc (Ap l) e) (hw : Pk e = true) : ∀ b ∈ e.base.l, ∃ v, Bp (Cy l (Ay e) l) b.1 b.2 = some v ∧ ∃ g ∈ l, Pk g = true ∧ Ay g = Ay e ∧ Ak g = b ∧ v = G1 l l g := fun b hb => by
 have hk3 := of_decide_eq_true hw;obtain ⟨f, hf, hk, hi, ho, hm⟩ := R2 h ha (by omega);obtain ⟨_, hm⟩ := hm hw;cases hv : Bp (Cy l (Ay e) l) b.1 b.2 with
 | none => exact absurd ⟨b, hb, hv⟩ hm
 | some v =>
   obtain ⟨h1, h2⟩ := Zy hv;obtain ⟨g, hg, ⟨hw, ho⟩, rfl⟩ := (N7 l.length l rfl).1 h1;exact ⟨_, rfl, g, hg, hw, ho, Prod.ext h2.1 h2.2, rfl⟩
noncomputable def Aak (l : List Evt) (e : Evt) : List UInt8 := match e.base.l with
 | [] => []
 | b :: _ => De l l.length b
theorem X5 {e : Evt} (h : Bd e = true) (hw : Pk e = true) : e.data.length ≤ 200 := by
 have hK := Nx h;have hk := of_decide_eq_true hw;rcases hk with k | k | k
 · have h1 := hK.1;rw [Ki k] at h1;simp only [Bool.and_eq_true, Cv, decide_eq_true_eq] at h1;omega
 · have h1 := hK.2;rw [A50 k] at h1;simp only [Am, Bool.and_eq_true, Bool.or_eq_true, decide_eq_true_eq, Bool.false_eq_true, false_or, true_or] at h1;have : e.data = [] := h1.2.2.2.2.2.1;rw [this]; simp
 · have h1 := hK.1;rw [Om k] at h1;simp only [Bool.and_eq_true, Cv, decide_eq_true_eq] at h1;omega
theorem Akx {e : Evt} (h : Bd e = true) (hw : Pk e = true) {was : List UInt8} (hl : was.length ≤ 200) : (Gl e was).length ≤ 200 := by
 have hd := X5 h hw;unfold Gl;split
 · exact hd
 · split
   · unfold Yr; split
     · simp
     · rw [Ae3]; omega
   · unfold Kv; split
     · simp
     · rename_i h; unfold D9 at h; rw [W0]; omega
theorem N9 {l : List Evt} (h : Val l) : ∀ g ∈ l, Pk g = true → (De l l.length (Ak g)).length ≤ 200 ∧ ∀ t n, l.length ≤ n → De (l ++ t) n (Ak g) = De l l.length (Ak g) := by
 induction h with
 | nil => intro g hg; cases hg
 | @snoc l e hl he hw ih =>
   have ha := Mo.1 hw;intro g hg hgw;have hlen : (l ++ [e]).length = l.length + 1 := by simp
   rcases List.mem_append.1 hg with hg | hg
   · obtain ⟨h1, h2⟩ := ih g hg hgw;have e1 : De (l ++ [e]) (l ++ [e]).length (Ak g) = De l l.length (Ak g) := h2 [e] _ (by omega);rw [e1];refine ⟨h1, fun t n hn => ?_⟩;rw [List.append_assoc];exact h2 _ n (by omega)
   · rw [List.mem_singleton] at hg; subst hg;have key : ∀ t n, (l ++ [g]).length ≤ n → De ((l ++ [g]) ++ t) n (Ak g) = Gl g (Aak l g) := fun t n hn => by
      obtain ⟨n, rfl⟩ : ∃ k, n = k + 1 := ⟨n - 1, by omega⟩
      simp only [De];rw [Am8 t ⟨g, by simp, rfl⟩, Zz (N8 hl ha) (by simp)];simp only;congr 1;unfold Aak;cases hb : g.base.l with
      | nil => rfl
      | cons b r =>
        simp only;obtain ⟨v, hv, f, hf, hfw, _, rfl, _⟩ := J2 hl ha hgw b (by rw [hb]; simp);rw [List.append_assoc];exact (ih f hf hfw).2 _ n (by omega)
     have e1 : De (l ++ [g]) (l ++ [g]).length (Ak g) = Gl g (Aak l g) := by
      have := key [] (l ++ [g]).length (Nat.le_refl _)
      rwa [List.append_nil] at this
     rw [e1];refine ⟨Akx ha.ck hgw ?_, key⟩;unfold Aak;cases hb : g.base.l with
     | nil => simp
     | cons b r =>
       simp only;obtain ⟨v, hv, f, hf, hfw, _, rfl, _⟩ := J2 hl ha hgw b (by rw [hb]; simp);exact (ih f hf hfw).1
theorem Ant {l : List Evt} {e : Evt} (h : Val l) (ha : Acc (Ap l) e) (hw : Pk e = true) : De (l ++ [e]) (l ++ [e]).length (Ak e) = Gl e (Aak l e) := by
 rw [show (l ++ [e]).length = l.length + 1 from by simp];simp only [De];rw [Zz (N8 h ha) (by simp)];simp only;congr 1;unfold Aak;cases hb : e.base.l with
 | nil => rfl
 | cons b r =>
   simp only;obtain ⟨v, hv, f, hf, hfw, _, rfl, _⟩ := J2 h ha hw b (by rw [hb]; simp);exact (N9 h f hf hfw).2 _ _ (Nat.le_refl _)
theorem Acw {l : List Evt} {e : Evt} (h : Val l) {g : Evt} (hg : g ∈ l) (hw : Pk g = true) : G1 (l ++ [e]) (l ++ [e]) g = if Zt e (Ay g) (Ak g) = true then Et (G1 l l g) e.rep e.seq else G1 l l g := by
 have hb := (N9 h g hg hw).2 [e] (l ++ [e]).length (by simp);unfold G1;rw [hb, Aet];split <;> rfl
theorem Axh {l : List Evt} {e : Evt} (h : Val l) (ha : Acc (Ap l) e) (obj : Bn) {g : Evt} (hg : g ∈ l ++ [e]) : Zt g obj (Ak e) = false := by
 cases hq : Zt g obj (Ak e) with
 | false => rfl
 | true =>
   unfold Zt at hq;simp only [Bool.and_eq_true, decide_eq_true_eq] at hq;rcases List.mem_append.1 hg with hg | hg
   · obtain ⟨a, b, rfl, h1, _, h3⟩ := h.mem hg;obtain ⟨_, _, f, hf, _, _, hi, _⟩ := J2 h1 h3 hq.1 _ hq.2.2;exact absurd hi (Gz h ha f (by simp [hf]))
   · rw [List.mem_singleton] at hg; subst hg;obtain ⟨_, _, f, hf, _, _, hi, _⟩ := J2 h ha hq.1 _ hq.2.2;exact absurd hi (Gz h ha f hf)
theorem Ayk {l : List Evt} {e : Evt} (h : Val l) (ha : Acc (Ap l) e) (obj : Bn) : gvG (l ++ [e]) obj (Ak e) = fun _ => 0 := by
 unfold gvG;have : ∀ m : List Evt, (∀ g ∈ m, Zt g obj (Ak e) = false) → m.foldl (fun a g => if Zt g obj (Ak e) = true then A8 a g.rep g.seq else a) (fun _ => 0 : Vc) = fun _ => 0 := fun m hm => by
  induction m with
  | nil => rfl
  | cons g m ih =>
    rw [List.foldl_cons, if_neg (by rw [hm g List.mem_cons_self]; simp)];exact ih fun f hf => hm f (List.mem_cons_of_mem _ hf)
 exact this _ fun g hg => Axh h ha obj hg
theorem Gq {l : List Evt} (h : NodE l) (obj : Bn) : Cu (Cy l obj l) ∧ (Cy l obj l).length ≤ l.length ∧ ∀ v, v ∈ Cy l obj l ↔ ∃ e ∈ l, (Pk e = true ∧ Ay e = obj) ∧ v = G1 l l e := ⟨(Ja l.length l rfl h).1, (Ja l.length l rfl h).2, fun v => N7 l.length l rfl⟩
theorem N6 {l : List Evt} {e : Evt} (h : Val l) (ha : Acc (Ap l) e) {obj : Bn} (hx : ¬ (Pk e = true ∧ Ay e = obj)) : Cy (l ++ [e]) obj (l ++ [e]) = Cy l obj l := by
 obtain ⟨s1, _, m1⟩ := Gq h.nod obj;obtain ⟨s2, _, m2⟩ := Gq (N8 h ha) obj;refine Y4 s2 s1 fun v => ?_;have key : ∀ g ∈ l, Pk g = true ∧ Ay g = obj → G1 (l ++ [e]) (l ++ [e]) g = G1 l l g := fun g hg ⟨hw, ho⟩ => by
  rw [Acw h hg hw, if_neg];unfold Zt;rw [ho];simp only [Bool.and_eq_true, decide_eq_true_eq];exact fun q => hx ⟨q.1, q.2.1⟩
 rw [m1, m2];constructor
 · rintro ⟨g, hg, hc, rfl⟩;rcases List.mem_append.1 hg with hg | hg
   · exact ⟨g, hg, hc, key g hg hc⟩
   · rw [List.mem_singleton] at hg; subst hg; exact absurd hc hx
 · rintro ⟨g, hg, hc, rfl⟩;exact ⟨g, List.mem_append_left _ hg, hc, (key g hg hc).symm⟩
theorem Anv {l : List Evt} {e : Evt} (h : Val l) (ha : Acc (Ap l) e) (hw : Pk e = true) : Fe (Cy l (Ay e) l) e = Gl e (Aak l e) := by
 have hd : ∀ v ∈ Cy l (Ay e) l, v.data.length ≤ 200 := fun v hv => by
  obtain ⟨g, hg, hc, rfl⟩ := ((Gq h.nod (Ay e)).2.2 v).1 hv;exact (N9 h g hg hc.1).1
 have hk := of_decide_eq_true hw;have hf := X4 ha.ck hk hd;have hwas : (D0 (Cy l (Ay e) l) (Em e).1 (Em e).2).1 = Aak l e := by
  unfold Em Aak;cases hb : e.base.l with
  | nil => simp only; rw [Rt ⟨rfl, rfl⟩]
  | cons b r =>
    simp only;obtain ⟨v, hv, f, hf, hfw, _, rfl, rfl⟩ := J2 h ha hw b (by rw [hb]; simp);obtain ⟨a, c, _, _, _, h3⟩ := h.mem hf;have hbp := Cx h3.ck;have hbp1 : 1 ≤ f.rep := hbp.1;rw [Mh (fun q => by have := q.1; simp only at this; omega) hv];rfl
 have hwl : (D0 (Cy l (Ay e) l) (Em e).1 (Em e).2).1.length ≤ 200 := Z2 hd _ _;unfold Fe Gl;rw [hwas] at hwl ⊢;by_cases h5 : e.kind = 5
 · rw [if_pos h5, if_pos h5]
 rw [if_neg h5, if_neg h5];obtain ⟨o1, o2⟩ := hf.off h5;by_cases h4 : e.kind = 4
 · rw [if_pos h4, if_pos h4];unfold Yr; rw [if_neg (by omega)]
 · rw [if_neg h4, if_neg h4];have hl := hf.len (by omega);unfold Kv; rw [if_neg (by unfold D9; omega)]
theorem Aor {l : List Evt} {e : Evt} (h : Val l) (ha : Acc (Ap l) e) (hw : Pk e = true) : Cy (l ++ [e]) (Ay e) (l ++ [e]) = Fk (Cy l (Ay e) l) e.base.l (Sc e.rep e.seq (Fe (Cy l (Ay e) l) e)) := by
 obtain ⟨s1, _, m1⟩ := Gq h.nod (Ay e);obtain ⟨s2, _, m2⟩ := Gq (N8 h ha) (Ay e);have hnew : Bp (Cy l (Ay e) l) e.rep e.seq = none := P4.2 fun v hv ⟨h1, h2⟩ => by
  obtain ⟨g, hg, _, rfl⟩ := (m1 v).1 hv;exact Gz h ha g hg (Prod.ext h1 h2)
 have hE : G1 (l ++ [e]) (l ++ [e]) e = Sc e.rep e.seq (Fe (Cy l (Ay e) l) e) := by
  unfold G1 Sc;rw [Ant h ha hw, Ayk h ha, Anv h ha hw]
 refine Y4 s2 (Afk s1 hnew) fun v => ?_;rw [m2, Arw, ← hE];have key : ∀ g ∈ l, Pk g = true ∧ Ay g = Ay e → G1 (l ++ [e]) (l ++ [e]) g = Pc e.base.l e.rep e.seq (G1 l l g) := fun g hg ⟨hgw, ho⟩ => by
  rw [Acw h hg hgw];unfold Pc;have : Zt e (Ay g) (Ak g) = decide (((G1 l l g).rep, (G1 l l g).seq) ∈ e.base.l) := by
   unfold Zt;rw [hw, ho];simp; rfl
  rw [this];by_cases hin : ((G1 l l g).rep, (G1 l l g).seq) ∈ e.base.l
  · rw [if_pos (decide_eq_true hin), if_pos hin]
  · rw [if_neg (by simpa using hin), if_neg hin]
 constructor
 · rintro ⟨g, hg, hc, rfl⟩;rcases List.mem_append.1 hg with hg | hg
   · exact .inr ⟨G1 l l g, (m1 _).2 ⟨g, hg, hc, rfl⟩, key g hg hc⟩
   · rw [List.mem_singleton] at hg; subst hg; exact .inl rfl
 · rintro (rfl | ⟨y, hy, rfl⟩)
   · exact ⟨e, by simp, ⟨hw, rfl⟩, rfl⟩
   · obtain ⟨g, hg, hc, rfl⟩ := (m1 y).1 hy;exact ⟨g, List.mem_append_left _ hg, hc, (key g hg hc).symm⟩
theorem Af1 (e f : Evt) (o : Obj) (v : List Ver) : D8 e { o with vers := v } f = { D8 e o f with vers := v } := by
 unfold D8;by_cases h1 : Ay f = Ak e
 · rw [if_pos h1, if_pos h1];by_cases h7 : f.kind = 7
   · rw [if_pos h7, if_pos h7];by_cases hl : Cl o.last.1 o.last.2 f.rep f.seq = true
     · rw [if_pos hl, if_pos hl]
     · rw [if_neg hl, if_neg hl]
   · rw [if_neg h7, if_neg h7];by_cases h6 : f.kind = 6
     · rw [if_pos h6, if_pos h6]
     · rw [if_neg h6, if_neg h6]
 · rw [if_neg h1, if_neg h1]
theorem Axc (l L : List Evt) (e : Evt) : ∀ m : List Evt, C8 L m e = { C8 l m e with vers := Cy L (Ak e) L } :=
 O9 rfl fun m f ih => by
  rw [Jo, Jo, ih, Af1]
theorem Ard (l : List Evt) (e f : Evt) : C8 (l ++ [e]) (l ++ [e]) f = { D8 f (C8 l l f) e with vers := Cy (l ++ [e]) (Ak f) (l ++ [e]) } := by
 rw [Axc l, Jo]
theorem Ad4 {l : List Evt} {e : Evt} (h : Val l) (ha : Acc (Ap l) e) : C8 (l ++ [e]) (l ++ [e]) e = Xb e := by
 have hv : Cy (l ++ [e]) (Ak e) (l ++ [e]) = [] := by
  refine List.eq_nil_iff_forall_not_mem.2 fun v hv => ?_;obtain ⟨g, hg, hc, _⟩ := ((Gq (N8 h ha) (Ak e)).2.2 v).1 hv;exact Ark h ha hg hc.2
 unfold C8 Xb;rw [hv];have : ∀ (m : List Evt) (o : Obj), (∀ g ∈ m, Ay g ≠ Ak e) → m.foldl (D8 e) o = o := fun m => by
  induction m with
  | nil => intro o _; rfl
  | cons g m ih =>
    intro o hm;rw [List.foldl_cons, show D8 e o g = o from if_neg (hm g List.mem_cons_self)];exact ih o fun f hf => hm f (List.mem_cons_of_mem _ hf)
 exact this _ _ fun g hg => Ark h ha hg
def GO (e : Evt) (x : Obj) : Obj :=
 if e.kind = 7 then Xd e x
 else if e.kind = 6 then { x with seen := Cp x.seen (A8 e.dep e.rep e.seq) }
 else { x with vers := Fk x.vers e.base.l (Sc e.rep e.seq (Fe x.vers e)) }
theorem Arr (e : Evt) (x : Obj) : (Xd e x).id = x.id := by unfold Xd; split <;> rfl
theorem Bai (e : Evt) (x : Obj) : (GO e x).id = x.id := by
 unfold GO;split
 · exact Arr e x
 · split <;> rfl
theorem Apu {l : List Obj} (hs : En l) {i : Bn} {o : Obj} (h : E9 l i = some o) (g : Obj → Obj) : l.set (Bt l i) (g o) = l.map fun x => if x.id = i then g x else x := by
 obtain ⟨h1, h2⟩ := G3 h;apply List.ext_getElem?;intro j;rw [List.getElem?_map];by_cases hj : Bt l i = j
 · subst hj;rw [List.getElem?_set_self (List.getElem?_eq_some_iff.1 h1).1, h1];simp only [Option.map_some];rw [if_pos h2]
 · rw [List.getElem?_set_ne hj];cases hy : l[j]? with
   | none => rfl
   | some y =>
     simp only [Option.map_some];rw [if_neg];intro q;rcases Nat.lt_or_gt_of_ne hj with k | k
     · have := K5 hs h1 hy k; rw [h2, q] at this; exact Gb this
     · have := K5 hs hy h1 k; rw [h2, q] at this; exact Gb this
theorem Ay6 {s : St} (hs : En s.objs) {e : Evt} (hk : e.kind = 3 ∨ e.kind = 4 ∨ e.kind = 5 ∨ e.kind = 6 ∨ e.kind = 7) {o : Obj} (h : E9 s.objs (Ay e) = some o) : (doS s e).objs = s.objs.map fun x => if x.id = Ay e then GO e x else x := by
 unfold doS;rw [if_neg (by omega), if_neg (by omega), if_neg (by omega), h, ← Apu hs h (GO e)];simp only;unfold GO;by_cases h7 : e.kind = 7
 · rw [if_pos h7, if_pos h7]; rfl
 rw [if_neg h7, if_neg h7];by_cases h6 : e.kind = 6
 · rw [if_pos h6, if_pos h6]; rfl
 · rw [if_neg h6, if_neg h6]; rfl
theorem Ak2 {l : List Obj} (hs : En l) {g : Obj → Obj} (hg : ∀ x, (g x).id = x.id) : En (l.map g) := by
 rw [Wm] at *;rw [List.pairwise_map];exact hs.imp fun {a b} h => by rw [hg, hg]; exact h
theorem A2c {l : List Evt} (h : Val l) {f : Evt} (hf : f ∈ l) : Ak f ≠ (0, 0) := fun q => by
 obtain ⟨a, b, _, _, _, h3⟩ := h.mem hf;have h1 : 1 ≤ f.rep := (Cx h3.ck).1;have h2 : f.rep = 0 := congrArg Prod.fst q;omega
theorem Ajj {l : List Evt} {e : Evt} (h : Val l) (ha : Acc (Ap l) e) {f : Evt} (hf : f ∈ l) :
 C8 (l ++ [e]) (l ++ [e]) f = if (e.kind = 3 ∨ e.kind = 4 ∨ e.kind = 5 ∨ e.kind = 6 ∨ e.kind = 7) ∧ Ak f = Ay e then GO e (C8 l l f) else C8 l l f := by
 rw [Ard];have hov := S4 l f l;by_cases hk : e.kind = 3 ∨ e.kind = 4 ∨ e.kind = 5 ∨ e.kind = 6 ∨ e.kind = 7;rotate_left
 · rw [if_neg fun q => hk q.1];have hw : Pk e = false := decide_eq_false (by omega);rw [N6 h ha (fun q => by rw [hw] at q; simp at q), ← hov];have h0 := X2 ha.ck hk;have : D8 f (C8 l l f) e = C8 l l f := if_neg (by rw [h0]; exact fun q => A2c h hf q.symm);rw [this]
 by_cases hi : Ak f = Ay e;rotate_left
 · rw [if_neg fun q => hi q.2, N6 h ha (fun q => hi q.2.symm), ← hov];have : D8 f (C8 l l f) e = C8 l l f := if_neg fun q => hi q.symm;rw [this]
 rw [if_pos ⟨hk, hi⟩];unfold D8 GO;rw [if_pos hi.symm];by_cases h7 : e.kind = 7
 · have hw : Pk e = false := decide_eq_false (by omega);rw [if_pos h7, if_pos h7, N6 h ha (fun q => by rw [hw] at q; simp at q), ← hov];unfold Xd;split <;> rfl
 rw [if_neg h7, if_neg h7];by_cases h6 : e.kind = 6
 · have hw : Pk e = false := decide_eq_false (by omega);rw [if_pos h6, if_pos h6, N6 h ha (fun q => by rw [hw] at q; simp at q), ← hov]
 · rw [if_neg h6, if_neg h6];have hw : Pk e = true := decide_eq_true (by omega);rw [hi, Aor h ha hw, hov, hi]
theorem Alw {l : List Evt} {e : Evt} (h : Val l) (ha : Acc (Ap l) e) : (Ap (l ++ [e])).objs = (Hs (Ap l) e).objs := by
 obtain ⟨s1, _, m1⟩ := Q0 h.nod;obtain ⟨s2, _, m2⟩ := Q0 (N8 h ha);have hkn : (Hl (Ap l) e).objs = (Ap l).objs := rfl;by_cases hk : e.kind = 3 ∨ e.kind = 4 ∨ e.kind = 5 ∨ e.kind = 6 ∨ e.kind = 7
 · obtain ⟨f0, hf0, _, _, ho, _⟩ := R2 h ha hk;have hd := Ay6 (s := Hl (Ap l) e) s1 hk ho;unfold Hs;rw [hd];refine Sn s2 (Ak2 s1 fun x => by split; exact Bai e x; rfl) fun x => ?_;rw [m2, List.mem_map];have key : ∀ f ∈ l, C8 (l ++ [e]) (l ++ [e]) f = if (C8 l l f).id = Ay e then GO e (C8 l l f) else C8 l l f := fun f hf => by
    rw [Ajj h ha hf, Jf];by_cases hi : Ak f = Ay e
    · rw [if_pos ⟨hk, hi⟩, if_pos hi]
    · rw [if_neg fun q => hi q.2, if_neg hi]
   constructor
   · rintro ⟨f, hf, hc, rfl⟩;rcases List.mem_append.1 hf with hf | hf
     · exact ⟨C8 l l f, (m1 _).2 ⟨f, hf, hc, rfl⟩, (key f hf).symm⟩
     · rw [List.mem_singleton] at hf; subst hf; omega
   · rintro ⟨y, hy, rfl⟩;obtain ⟨f, hf, hc, rfl⟩ := (m1 y).1 hy;exact ⟨f, List.mem_append_left _ hf, hc, (key f hf).symm⟩
 have key : ∀ f ∈ l, C8 (l ++ [e]) (l ++ [e]) f = C8 l l f := fun f hf => by
  rw [Ajj h ha hf, if_neg fun q => hk q.1]
 have hb := Cx ha.ck;obtain ⟨_, _, _, _, _, b6, b7⟩ := hb;by_cases h12 : e.kind = 1 ∨ e.kind = 2
 · have hd : (Hs (Ap l) e).objs = Hw (Ap l).objs (Xb e) := by
    unfold Hs doS;rw [if_neg (by omega), if_neg (by omega), if_pos h12]; rfl
   rw [hd];have hne : ∀ x ∈ (Ap l).objs, x.id ≠ (Xb e).id := fun x hx q => by
    obtain ⟨f, hf, hc, rfl⟩ := (m1 x).1 hx;rw [Jf] at q;exact Gz h ha f hf q
   refine Sn s2 (Y5 s1 hne) fun x => ?_;rw [m2, Ad8];constructor
   · rintro ⟨f, hf, hc, rfl⟩;rcases List.mem_append.1 hf with hf | hf
     · exact .inr ((m1 _).2 ⟨f, hf, hc, key f hf⟩)
     · rw [List.mem_singleton] at hf; subst hf; exact .inl (Ad4 h ha)
   · rintro (rfl | hx)
     · exact ⟨e, by simp, h12, (Ad4 h ha).symm⟩
     · obtain ⟨f, hf, hc, rfl⟩ := (m1 x).1 hx;exact ⟨f, List.mem_append_left _ hf, hc, (key f hf).symm⟩
 · have hd : (Hs (Ap l) e).objs = (Ap l).objs := by
    unfold Hs doS;by_cases h8 : e.kind = 8
    · rw [if_pos h8]; rfl
    · rw [if_neg h8, if_pos (by omega)]; rfl
   rw [hd];refine Sn s2 s1 fun x => ?_;rw [m2, m1];constructor
   · rintro ⟨f, hf, hc, rfl⟩;rcases List.mem_append.1 hf with hf | hf
     · exact ⟨f, hf, hc, key f hf⟩
     · rw [List.mem_singleton] at hf; subst hf; exact absurd hc h12
   · rintro ⟨f, hf, hc, rfl⟩;exact ⟨f, List.mem_append_left _ hf, hc, (key f hf).symm⟩
end Go.Proofs.YthmjebkldgdeiaaGreat.Fw
namespace Go.Proofs.YthmjebkldgdeiaaGreat.Fw
open Go.RowKit Go.Proofs
theorem St.eq {a b : St} (h1 : a.known = b.known) (h2 : a.objs = b.objs) (h3 : a.ents = b.ents) (h4 : a.wards = b.wards) (h5 : a.ret = b.ret) : a = b := by
 cases a; cases b; simp only at h1 h2 h3 h4 h5; subst h1 h2 h3 h4 h5; rfl
theorem A9i (l l' : List Evt) : ∀ m : List Evt, (F4 l m).1.wards = (F4 l' m).1.wards ∧ (F4 l m).1.ret = (F4 l' m).1.ret ∧ (F4 l m).2 = (F4 l' m).2 :=
 O9 ⟨rfl, rfl, rfl⟩ fun m e ⟨h1, h2, h3⟩ => by
  rw [H7, H7];unfold D2;by_cases k12 : e.kind = 1 ∨ e.kind = 2
  · rw [if_pos k12, if_pos k12]; exact ⟨h1, h2, h3⟩
  rw [if_neg k12, if_neg k12];by_cases k8 : e.kind = 8
  · rw [if_pos k8, if_pos k8, h3];split
    · exact ⟨by simp only [Ii, h1], h2, by simp only [h3]⟩
    · exact ⟨h1, h2, h3⟩
  rw [if_neg k8, if_neg k8];by_cases k9 : e.kind = 9
  · rw [if_pos k9, if_pos k9]; exact ⟨h1, by simp only [Oz, h2], h3⟩
  rw [if_neg k9, if_neg k9]; exact ⟨h1, h2, h3⟩
theorem Akl {a b : Vc} {r : Int} {q : Nat} {i : Nat} (h : ∀ i, a i ≤ b i) : A8 a r q i ≤ A8 b r q i := by
 by_cases hr : 1 ≤ r ∧ r ≤ 8
 · rw [Qh hr, Qh hr]; have := h i; split <;> omega
 · unfold A8; rw [if_neg hr, if_neg hr]; exact h i
theorem Amc (L : List Evt) : ∀ (m : List Evt) (i : Nat), (F4 L m).2 i ≤ Bi m i :=
 O9 (fun i => Nat.le_refl _) fun m e ih i => by
  rw [H7, Ip];unfold D2;split
  · exact Nat.le_trans (ih i) (Uy i)
  · split
    · split
      · exact Akl ih
      · exact Nat.le_trans (ih i) (Uy i)
    · split <;> exact Nat.le_trans (ih i) (Uy i)
theorem Atv (s : St) (e : Evt) : (doS s e).known = s.known := by
 unfold doS;split
 · rfl
 · split
   · rfl
   · split
     · rfl
     · split
       · rfl
       · split
         · rfl
         · split <;> rfl
theorem Qb {l : List Evt} {e : Evt} (h : Val l) (ha : Acc (Ap l) e) : Ap (l ++ [e]) = Hs (Ap l) e := by
 obtain ⟨n1, n2, n3⟩ := Afl ha;obtain ⟨_, _, _, _, _, b6, b7⟩ := Cx ha.ck;rw [D5] at n3;have hb : Ap (l ++ [e]) = (D2 (l ++ [e]) (F4 (l ++ [e]) l) e).1 := by
  show (F4 (l ++ [e]) (l ++ [e])).1 = _;rw [H7]
 obtain ⟨w1, w2, w3⟩ := A9i (l ++ [e]) l l;have hen := Anb h ha;rw [← Ow (l ++ [e]), ← Ow l] at hen;refine St.eq ?_ (Alw h ha) ?_ ?_ ?_
 · rw [D5, Ip];unfold Hs; rw [Atv];show _ = A8 (Ap l).known e.rep e.seq;rw [D5]
 · rw [hen];unfold Hs doS;by_cases h8 : e.kind = 8
   · rw [if_pos h8, if_neg (by omega), if_neg (by omega), if_neg (by omega)]; rfl
   rw [if_neg h8];by_cases h9 : e.kind = 9
   · rw [if_pos h9, if_neg (by omega), if_neg (by omega), if_neg (by omega)]; rfl
   rw [if_neg h9];by_cases h12 : e.kind = 1 ∨ e.kind = 2
   · rw [if_pos h12, if_pos h12]; rfl
   rw [if_neg h12, if_neg h12];obtain ⟨f0, hf0, _, _, ho, _⟩ := R2 h ha (by omega);rw [show E9 (Hl (Ap l) e).objs (Ay e) = some (C8 l l f0) from ho];simp only;by_cases h7 : e.kind = 7
   · rw [if_pos h7, if_pos h7]; rfl
   rw [if_neg h7, if_neg h7];by_cases h6 : e.kind = 6
   · rw [if_pos h6, if_pos h6]; rfl
   · rw [if_neg h6, if_neg h6]; rfl
 · rw [hb];unfold Hs doS D2;by_cases h8 : e.kind = 8
   · have hlt : Hx (F4 (l ++ [e]) l).2 e.rep < e.seq := by
      unfold Hx; rw [if_pos ⟨n1, n2⟩, w3];have := Amc l l (e.rep - 1).toNat;omega
     rw [if_pos h8, if_neg (by omega), if_pos h8, if_pos hlt];simp only [Ii, w1]; rfl
   rw [if_neg h8, if_neg h8];by_cases h9 : e.kind = 9
   · rw [if_pos h9, if_neg (by omega), if_pos h9];simp only [Oz, w1]; rfl
   rw [if_neg h9, if_neg h9];by_cases h12 : e.kind = 1 ∨ e.kind = 2
   · rw [if_pos h12, if_pos h12]; simp only [w1]; rfl
   rw [if_neg h12, if_neg h12];obtain ⟨f0, hf0, _, _, ho, _⟩ := R2 h ha (by omega);rw [show E9 (Hl (Ap l) e).objs (Ay e) = some (C8 l l f0) from ho];simp only;rw [w1];split
   · rfl
   · split <;> rfl
 · rw [hb];unfold Hs doS D2;by_cases h8 : e.kind = 8
   · rw [if_pos h8, if_neg (by omega), if_pos h8];split
     · simp only [Ii, w2]; rfl
     · simp only [Ii, w2]; rfl
   rw [if_neg h8, if_neg h8];by_cases h9 : e.kind = 9
   · rw [if_pos h9, if_neg (by omega), if_pos h9];simp only [Oz, w2]; rfl
   rw [if_neg h9, if_neg h9];by_cases h12 : e.kind = 1 ∨ e.kind = 2
   · rw [if_pos h12, if_pos h12]; simp only [w2]; rfl
   rw [if_neg h12, if_neg h12];obtain ⟨f0, hf0, _, _, ho, _⟩ := R2 h ha (by omega);rw [show E9 (Hl (Ap l) e).objs (Ay e) = some (C8 l l f0) from ho];simp only;rw [w2];split
   · rfl
   · split <;> rfl
theorem Aws {l : List Evt} {e : Evt} (h : Val l) (hw : Ew (Ap l) e = 0) : Aa8 (Ap l) e = Ap (l ++ [e]) := by
 unfold Aa8; rw [if_pos hw, Qb h (Mo.1 hw)]
theorem Se {l : List Evt} (h : Val l) (hn : l.length ≤ 400) : StIn (Ap l) := by
 obtain ⟨s1, l1, m1⟩ := Q0 h.nod;have hv : ∀ o ∈ (Ap l).objs, ∃ f ∈ l, o.vers = Cy l (Ak f) l := fun o ho => by
  obtain ⟨f, hf, _, rfl⟩ := (m1 o).1 ho;exact ⟨f, hf, S4 l f l⟩
 have hs := (S5 (l := l) l h.nod).1;refine ⟨⟨⟨by omega, fun o ho => ?_, ?_⟩, s1, ?_⟩, fun o ho => ?_, fun o ho v hq => ?_, fun o ho v hq => ?_⟩
 · obtain ⟨f, hf, e⟩ := hv o ho;rw [e]; have := (Gq h.nod (Ak f)).2.1; omega
 · rw [Ow]; have := Tn l l.length l rfl; omega
 · rw [Ow]; exact hs
 · obtain ⟨f, hf, e⟩ := hv o ho;rw [e]; exact (Gq h.nod (Ak f)).1
 · obtain ⟨f, hf, e⟩ := hv o ho;rw [e] at hq;obtain ⟨g, hg, hc, rfl⟩ := ((Gq h.nod (Ak f)).2.2 v).1 hq;exact (N9 h g hg hc.1).1
 · obtain ⟨f, hf, e⟩ := hv o ho;rw [e] at hq;obtain ⟨g, hg, hc, rfl⟩ := ((Gq h.nod (Ak f)).2.2 v).1 hq;rw [D5];exact h.has.2 ⟨g, hg, rfl⟩
theorem X1 {e : Evt} (h : Bd e = true) (hw : Pk e = false) : e.base.l = [] ∧ e.data = [] := by
 obtain ⟨b1, b2, b3, b4, b5, b6, b7⟩ := Cx h;have hz := (Nx h).2;have hk : ¬ (e.kind = 3 ∨ e.kind = 4 ∨ e.kind = 5) := of_decide_eq_false hw;have h4 : e.kind = 1 ∨ e.kind = 2 ∨ e.kind = 6 ∨ e.kind = 7 ∨ e.kind = 8 ∨ e.kind = 9 := by omega
 rcases h4 with k | k | k | k | k | k
 · skip
   rw [Avl k] at hz; simp only [Am, Bool.and_eq_true, Bool.or_eq_true, decide_eq_true_eq, Bool.false_eq_true, false_or, true_or, true_and] at hz;exact ⟨List.length_eq_zero_iff.1 (by omega), hz.2.2.2.2.1⟩
 · skip
   rw [A0z k] at hz; simp only [Am, Bool.and_eq_true, Bool.or_eq_true, decide_eq_true_eq, Bool.false_eq_true, false_or, true_or, true_and] at hz;exact ⟨List.length_eq_zero_iff.1 (by omega), hz.2.2.2.2.1⟩
 · skip
   rw [A5z k] at hz; simp only [Am, Bool.and_eq_true, Bool.or_eq_true, decide_eq_true_eq, Bool.false_eq_true, false_or, true_or, true_and] at hz;exact ⟨List.length_eq_zero_iff.1 (by omega), hz.2.2.2.1⟩
 · skip
   rw [A5y k] at hz; simp only [Am, Bool.and_eq_true, Bool.or_eq_true, decide_eq_true_eq, Bool.false_eq_true, false_or, true_or, true_and] at hz;exact ⟨List.length_eq_zero_iff.1 (by omega), hz.2.2.1⟩
 · skip
   rw [A0y k] at hz; simp only [Am, Bool.and_eq_true, Bool.or_eq_true, decide_eq_true_eq, Bool.false_eq_true, false_or, true_or, true_and] at hz;exact ⟨List.length_eq_zero_iff.1 (by omega), hz.2.2.2.2.2.1⟩
 · skip
   rw [A0x k] at hz; simp only [Am, Bool.and_eq_true, Bool.or_eq_true, decide_eq_true_eq, Bool.false_eq_true, false_or, true_or, true_and] at hz;exact ⟨List.length_eq_zero_iff.1 (by omega), hz.2.2.2.2.2.1⟩
def rkL (l : List Evt) (e : Evt) : Nat := l.findIdx fun x => decide (Ak x = Ak e)
theorem Ail {l : List Evt} (h : Val l) (hn : l.length ≤ 400) : EvsOk l (rkL l) := by
 refine ⟨hn, h.nod, fun e he => ?_, fun e he h5 b t hb e' hf => ?_, fun e he => ?_⟩
 · obtain ⟨a, c, _, _, hv, h3⟩ := h.mem he;refine ⟨hv, ?_⟩;by_cases hw : Pk e = true
   · have := X5 h3.ck hw; omega
   · rw [(X1 h3.ck (by simpa using hw)).2]; simp
 · obtain ⟨a, c, rfl, h1, hv, h3⟩ := h.mem he;by_cases hw : Pk e = true
   · obtain ⟨_, _, g, hg, _, _, hi, _⟩ := J2 h1 h3 hw b (by rw [hb]; simp);have hi' : Ak e' = b := by simpa using List.find?_some hf
     have e1 : rkL (a ++ e :: c) e' < a.length := by
      unfold rkL;rw [List.findIdx_append];have : List.findIdx (fun x => decide (Ak x = Ak e')) a < a.length := List.findIdx_lt_length_of_exists ⟨g, hg, by simp [hi, hi']⟩;rw [if_pos this]; exact this
     have e2 : a.length ≤ rkL (a ++ e :: c) e := by
      unfold rkL;rw [List.findIdx_append];have : ¬ List.findIdx (fun x => decide (Ak x = Ak e)) a < a.length := fun q => by
       have := List.findIdx_getElem (w := q);simp only [decide_eq_true_eq] at this;exact Gz h1 h3 _ (List.getElem_mem _) this
      rw [if_neg this]; omega
     omega
   · rw [(X1 h3.ck (by simpa using hw)).1] at hb; cases hb
 · exact List.findIdx_lt_length_of_exists ⟨e, he, by simp⟩
theorem Aik {l : List Evt} (h : Val l) : ∀ e ∈ l, 1 ≤ e.rep ∧ e.rep ≤ 8 := fun e he => by
 obtain ⟨a, c, _, _, hv, h3⟩ := h.mem he;exact ⟨(Cx h3.ck).1, (Cx h3.ck).2.1⟩
open Classical in
noncomputable def M3 (out : List Evt) (e : Evt) : List Evt := if Ew (Ap out) e = 0 then out ++ [e] else out
noncomputable def K3 (l : List Evt) : List Evt := l.foldl M3 []
theorem V7 (l : List Evt) (e : Evt) : K3 (l ++ [e]) = M3 (K3 l) e := by simp [K3]
theorem Ac2 : ∀ l : List Evt, (∀ e ∈ l, ev e) → Val (K3 l) ∧ (K3 l).length ≤ l.length ∧ ∀ e ∈ K3 l, e ∈ l :=
 O9 (fun _ => ⟨Val.nil, Nat.le_refl _, fun e he => by cases he⟩) fun l e ih hl => by
  obtain ⟨h1, h2, h3⟩ := ih fun f hf => hl f (List.mem_append_left _ hf);rw [V7];unfold M3;split
  · rename_i hw;refine ⟨Val.snoc h1 (hl e (by simp)) hw, by simp only [List.length_append, List.length_singleton]; omega, fun f hf => ?_⟩;rcases List.mem_append.1 hf with hf | hf
    · exact List.mem_append_left _ (h3 f hf)
    · exact List.mem_append_right _ hf
  · exact ⟨h1, by simp only [List.length_append, List.length_singleton]; omega, fun f hf => List.mem_append_left _ (h3 f hf)⟩
theorem Wz (c : List PV) : Sv c c = true := by simp [Sv]
theorem Atc (v : Vc) : El [K1.int .u32, .int .u32, .int .u32, .int .u32, .int .u32, .int .u32, .int .u32, .int .u32] (vE v) = True := eq_true rfl
end Go.Proofs.YthmjebkldgdeiaaGreat.Fw
