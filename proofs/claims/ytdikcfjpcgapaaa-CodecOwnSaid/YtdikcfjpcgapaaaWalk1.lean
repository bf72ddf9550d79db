/- What the functions compute that the laws of this seat reach. -/
import Derived.Test.YtdikcfjpcgapaaaIr
import Derived.OpenShut
import Derived.ShutString
import Derived.ChangeOld
import Derived.SizedLaws
import Derived.ChangeOld
import Derived.OpenShut
import Derived.ShutString
import Derived.SizedLaws
set_option linter.unusedVariables false
set_option linter.unusedSimpArgs false
set_option linter.unusedSectionVars false
set_option maxRecDepth 100000
namespace Go.Proofs.Ytdikcfjpcgapaaa.Fw
def Cl (f : List UInt8) : List UInt8 := if f.length < 255 then UInt8.ofNat f.length :: f else 255 :: UInt8.ofNat (f.length / 256) :: UInt8.ofNat f.length :: f
def Bm : List (List UInt8) → List UInt8
 | [] => []
 | f :: l => Cl f ++ Bm l
theorem Nb : ∀ (a b : List (List UInt8)), Bm (a ++ b) = Bm a ++ Bm b
 | [], b => rfl
 | f :: a, b => by simp only [List.cons_append, Bm, Nb a b, List.append_assoc]
theorem Oz {f : List UInt8} (h : f.length < 255) : Cl f = UInt8.ofNat f.length :: f := if_pos h
theorem Qj {f : List UInt8} (h : ¬ f.length < 255) : Cl f = 255 :: UInt8.ofNat (f.length / 256) :: UInt8.ofNat f.length :: f := if_neg h
theorem L5 (f : List UInt8) : (Cl f).length = f.length + if f.length < 255 then 1 else 3 := by
 unfold Cl; split <;> simp
theorem Ur (f : List UInt8) : Cl f ≠ [] := by unfold Cl; split <;> simp
def A0 (l : List UInt8) : Nat × Nat × Int :=
 if (l.getD 0 0).toNat < 255 then ((l.getD 0 0).toNat, 1, 0)
 else if l.length < 3 then (0, 0, 8)
 else if (l.getD 1 0).toNat * 256 + (l.getD 2 0).toNat < 255 then (0, 0, 7)
 else ((l.getD 1 0).toNat * 256 + (l.getD 2 0).toNat, 3, 0)
def Jo (l : List UInt8) : Int := if (A0 l).2.2 = 0 then if l.length < (A0 l).2.1 + (A0 l).1 then 8 else 0 else (A0 l).2.2
def Qg (l : List UInt8) : List UInt8 := (l.drop (A0 l).2.1).take (A0 l).1
def Pt (l : List UInt8) : List UInt8 := l.drop ((A0 l).2.1 + (A0 l).1)
theorem Ry {l : List UInt8} (h : (A0 l).2.2 = 0) : 1 ≤ (A0 l).2.1 := by
 unfold A0 at *;split
 · simp
 · rename_i h1;rw [if_neg h1] at h;split
   · rename_i h2; rw [if_pos h2] at h; simp at h
   · rename_i h2;rw [if_neg h2] at h;split
     · rename_i h3; rw [if_pos h3] at h; simp at h
     · simp
theorem Ut {l : List UInt8} (h : Jo l = 0) : (A0 l).2.2 = 0 ∧ (A0 l).2.1 + (A0 l).1 ≤ l.length := by
 unfold Jo at h;split at h
 · rename_i h1;split at h
   · cases h
   · exact ⟨h1, by omega⟩
 · rename_i h1; exact absurd h h1
theorem S4 {l : List UInt8} (hl : l ≠ []) (h : Jo l = 0) : (Pt l).length < l.length := by
 obtain ⟨h1, h2⟩ := Ut h;have := Ry h1;have := List.length_pos_iff.2 hl;unfold Pt;rw [List.length_drop]; omega
def Bj (l : List UInt8) (out : List (List UInt8)) (most : Int) : List (List UInt8) × Int :=
 if hl : l = [] then (out, 0)
 else if h : Jo l = 0 then
  if most ≤ out.length then ([], 4) else Bj (Pt l) (out ++ [Qg l]) most
 else ([], Jo l)
termination_by l.length
decreasing_by exact S4 hl h
theorem Jz (out most) : Bj [] out most = (out, 0) := by rw [Bj]; simp
theorem Pg {l out most} (hl : l ≠ []) (h : Jo l ≠ 0) : Bj l out most = ([], Jo l) := by rw [Bj, dif_neg hl, dif_neg h]
theorem N7 {l out} {most : Int} (hl : l ≠ []) (h : Jo l = 0) (hm : most ≤ out.length) : Bj l out most = ([], 4) := by rw [Bj, dif_neg hl, dif_pos h, if_pos hm]
theorem K8 {l out} {most : Int} (hl : l ≠ []) (h : Jo l = 0) (hm : ¬ most ≤ out.length) : Bj l out most = Bj (Pt l) (out ++ [Qg l]) most := by rw [Bj, dif_neg hl, dif_pos h, if_neg hm]
theorem F9 {n : Nat} (h : n < 256) : (UInt8.ofNat n).toNat = n := by rw [UInt8.toNat_ofNat']; exact Nat.mod_eq_of_lt h
theorem Ht (f r : List UInt8) (hf : f.length ≤ 65535) : A0 (Cl f ++ r) = (f.length, (if f.length < 255 then 1 else 3), 0) := by
 unfold A0 Cl;by_cases h : f.length < 255
 · simp only [if_pos h, List.cons_append, List.getD_cons_zero];rw [F9 (by omega), if_pos h]
 · simp only [if_neg h, List.cons_append, List.getD_cons_zero, List.getD_cons_succ, List.length_cons];rw [if_neg (by decide), if_neg (by omega), F9 (by omega), UInt8.toNat_ofNat'];have : f.length / 256 * 256 + f.length % 2 ^ 8 = f.length := by omega
   rw [this, if_neg h]
theorem L4 (f r : List UInt8) : (Cl f ++ r).drop (if f.length < 255 then 1 else 3) = f ++ r := by
 unfold Cl;by_cases h : f.length < 255
 · simp [if_pos h]
 · simp [if_neg h]
theorem Us (f r : List UInt8) (hf : f.length ≤ 65535) : Jo (Cl f ++ r) = 0 := by
 unfold Jo;rw [Ht f r hf];simp only [if_true];rw [if_neg];rw [List.length_append, L5];omega
theorem Uq (f r : List UInt8) (hf : f.length ≤ 65535) : Qg (Cl f ++ r) = f := by
 unfold Qg;rw [Ht f r hf];simp only;rw [L4, List.take_left]
theorem Tt (f r : List UInt8) (hf : f.length ≤ 65535) : Pt (Cl f ++ r) = r := by
 unfold Pt;rw [Ht f r hf];simp only;rw [← List.drop_drop, L4, List.drop_left]
theorem Jy (r : List UInt8) : ∀ (l out : List (List UInt8)) (most : Int), (∀ f ∈ l, f.length ≤ 65535) → (out.length + l.length : Int) ≤ most → Bj (Bm l ++ r) out most = Bj r (out ++ l) most
 | [], out, most, _, _ => by simp [Bm]
 | f :: l, out, most, hl, hm => by
   simp only [Bm, List.append_assoc];have hf := hl f List.mem_cons_self;simp only [List.length_cons] at hm;rw [K8 (by simp [Ur]) (Us f _ hf) (by omega), Uq f _ hf, Tt f _ hf];rw [Jy r l (out ++ [f]) most (fun g hg => hl g (List.mem_cons_of_mem _ hg)) (by simp; omega)];simp
theorem K7 (l : List (List UInt8)) (most : Int) (hl : ∀ f ∈ l, f.length ≤ 65535) (hm : (l.length : Int) ≤ most) : Bj (Bm l) [] most = (l, 0) := by
 have := Jy [] l [] most hl (by simpa using hm);rw [List.append_nil] at this;rw [this, Jz]; simp
inductive RdR where
 | skip
 | err (e : Int)
 | val (x : Int) (rest : List UInt8)
end Go.Proofs.Ytdikcfjpcgapaaa.Fw
namespace Go.Proofs.Ytdikcfjpcgapaaa.Fw
open Go.RowKit Go.Proofs
theorem Ed (n : Nat) : IntKind.u8.wrap (n : Int) = ((UInt8.ofNat n).toNat : Int) := by
 rw [UInt8.toNat_ofNat'];simp [IntKind.wrap, IntKind.signed, IntKind.bits]
theorem S9 (a : Nat) (h : a < 18446744073709551616) : (BitVec.ofInt 64 (a : Int)).toNat = a := by
 rw [BitVec.ofInt_natCast, BitVec.toNat_ofNat]; exact Nat.mod_eq_of_lt (by omega)
theorem Se (l : List UInt8) : ∀ c ∈ Ad l, c.all PV.flat = true := by
 intro c hc;obtain ⟨x, _, rfl⟩ := List.mem_map.1 hc;rfl
def Zg (es : List (List PV)) (L : List (List UInt8)) : Prop := es.length = L.length ∧ ∀ k, k < L.length → ∃ f z, es[k]? = some [.sl f z (Ad (L.getD k []))] ∧ (L.getD k [] = [] ∨ z = 1)
def bE (b : List UInt8) : List PV := [.sl false 1 (Ad b)]
theorem Dp (L : List (List UInt8)) : Zg (L.map bE) L := ⟨by simp, fun k hk => ⟨false, 1, by simp [bE, hk], .inr rfl⟩⟩
theorem J9 {f z es} (K : KK) : LoadK (some [.sl f z es]) 0 1 false K = K (.pv (.sl f z es)) [] := by
 simp only [LoadK, Zh, eq_iff_iff];exact ⟨fun h => h.2.2, fun h => ⟨by simp, .inr trivial, h⟩⟩
theorem Acs {b : List UInt8} {z : Nat} (h : b = [] ∨ z = 1) : (Ad b = [] ∨ z = 1) = True := eq_true (h.imp (fun e => by rw [e]; rfl) id)
theorem Rm {L : List (List UInt8)} {k : Nat} (h : k < L.length) : Bm (L.take (k + 1)) = Bm (L.take k) ++ Cl (L.getD k []) := by
 rw [List.take_add_one, List.getElem?_eq_getElem h, Option.toList_some, Nb, List.getD_eq_getElem?_getD, List.getElem?_eq_getElem h];simp [Bm]
theorem V3 (n c : Nat) (hn : n < 65536) (hc : c < 256) : bits .or .i64 ((n : Int) * 256) (c : Int) = ((n * 256 + c : Nat) : Int) := by
 have h : n * 256 ||| c < 2 ^ 32 := Nat.or_lt_two_pow (by omega) (by omega);rw [show (n : Int) * 256 = ((256 * n : Nat) : Int) from by omega];show IntKind.i64.wrap ((BitVec.ofInt 64 ((256 * n : Nat) : Int) ||| BitVec.ofInt 64 (c : Int)).toNat : Int) = _;rw [BitVec.toNat_or, S9 _ (by omega), S9 c (by omega)];have := Nat.two_pow_add_eq_or_of_lt (i := 8) (b := c) (by omega) n;rw [show (2 : Nat) ^ 8 = 256 from rfl] at this;rw [← this, Ev (by omega)]; omega
theorem Aam {x : SV} {f : Bool} {l : List UInt8} {h d} (hx : Cd h [x] = [.pv (.sl f 1 (Ad l))]) (hl : A4 [x] = true) (hne : l ≠ []) (hn : l.length ≤ 400000) :
 FunOk Try.prog 12 [x] h d (.tup [.pv (.i .i64 (A0 l).1), .pv (.i .i64 (A0 l).2.1), .pv (.i .i64 (A0 l).2.2)]) [] := by
 refine Hu Cr fn12 (by simp) hl rfl fun F => ?_;rw [hx];have hpos : 0 < l.length := List.length_pos_iff.2 hne;by_cases h1 : (l.getD 0 0).toNat < 255
 · have e : A0 l = ((l.getD 0 0).toNat, 1, 0) := by unfold A0; rw [if_pos h1]
   have h1' : (((l.getD 0 0).toNat : Nat) : Int) < 255 := by omega
   have e2 : IntKind.i64.wrap (((l.getD 0 0).toNat : Nat) : Int) = ((l.getD 0 0).toNat : Int) := Ev (by omega);simp (disch := omega) only [ir12, Ej, h1', e, e2, go_sem];rfl
 · have h1' : ¬ (((l.getD 0 0).toNat : Nat) : Int) < 255 := by omega
   by_cases h2 : l.length < 3
   · have e : A0 l = (0, 0, 8) := by unfold A0; rw [if_neg h1, if_pos h2]
     simp (disch := omega) only [ir12, Ej, h1', e, go_sem]
   · have t1 : Int.toNat 1 = 1 := rfl;have t2 : Int.toNat 2 = 2 := rfl;have b1 := (l.getD 1 0).toNat_lt;have b2 := (l.getD 2 0).toNat_lt;have w1 : IntKind.i64.wrap (((l.getD 1 0).toNat : Nat) : Int) = ((l.getD 1 0).toNat : Int) := Ev (by omega);have w2 : IntKind.i64.wrap (((l.getD 2 0).toNat : Nat) : Int) = ((l.getD 2 0).toNat : Int) := Ev (by omega);have e6 : ((2 : Int) ^ min (Int.toNat 8) 64) = 256 := rfl;have w3 : IntKind.i64.wrap (((l.getD 1 0).toNat : Int) * 256) = ((l.getD 1 0).toNat : Int) * 256 := Ev (by omega);have hor : bits .or .i64 (((l.getD 1 0).toNat : Int) * 256) ((l.getD 2 0).toNat : Int) = (((l.getD 1 0).toNat * 256 + (l.getD 2 0).toNat : Nat) : Int) := V3 _ _ (by omega) (by omega);by_cases h3 : (l.getD 1 0).toNat * 256 + (l.getD 2 0).toNat < 255
     · have e : A0 l = (0, 0, 7) := by unfold A0; rw [if_neg h1, if_neg h2, if_pos h3]
       have h3' : (((l.getD 1 0).toNat * 256 + (l.getD 2 0).toNat : Nat) : Int) < 255 := by omega
       simp (disch := omega) only [ir12, Ej, h1', e, t1, t2, w1, w2, e6, w3, hor, h3', go_sem]
     · have e : A0 l = ((l.getD 1 0).toNat * 256 + (l.getD 2 0).toNat, 3, 0) := by unfold A0; rw [if_neg h1, if_neg h2, if_neg h3]
       have h3' : ¬ (((l.getD 1 0).toNat * 256 + (l.getD 2 0).toNat : Nat) : Int) < 255 := by omega
       simp (disch := omega) only [ir12, Ej, h1', e, t1, t2, w1, w2, e6, w3, hor, h3', go_sem];rfl
theorem Wm {f : Bool} {z : Nat} {l : List UInt8} {h d} (hz : l = [] ∨ z = 1) (hn : l.length ≤ 400000) :
 FunOk Try.prog 10 [.pv (.sl f z (Ad l))] h d (.fn (.func 11) [.pi 1 [[.sl false 1 (Ad l)]] 0 0]) [] := by
 refine Uk Cr fn10 (by simp) rfl rfl fun F => ?_;have hz' := Acs hz;simp (disch := omega) only [ir10, hz', Av, go_sem];refine ⟨_, Ac1 6 rfl (Zn 3 (x := .pv (.sl false 1 (Ad l))) (cs := [.sl false 1 (Ad l)]) rfl rfl (.same _)), ?_⟩
 (try simp only [Mn, Mm, Ml, Mk, Mj, Mi, Mh, Mg]); simp (disch := omega) only [go_sem]
def Ade (l : Nat) (most : Int) (r : List UInt8) (o : List (List UInt8)) : FS := mk [(3, .pv (.sl false 1 (Ad r))), (0, .fn (.yield l) []), (1000000, .pv (.i .i64 0)), (1000004, .p 3 0), (1000005, .p 4 0), (1000006, .p 5 0), (1000007, .p 6 0)]
 [(3, some (.var (.pv (.i .i64 most)))), (4, some (.var (.pv (.sl true 0 [])))), (5, some (.var (.pv (.i .i64 0)))), (6, some (.var (.nt 50 0))), (50, some (.nest o))]
theorem Xj (l : List UInt8) : (A0 l).1 < 65536 ∧ (A0 l).2.1 ≤ 3 ∧ 0 ≤ (A0 l).2.2 ∧ (A0 l).2.2 ≤ 8 := by
 have b0 := (l.getD 0 0).toNat_lt;have b1 := (l.getD 1 0).toNat_lt;have b2 := (l.getD 2 0).toNat_lt;unfold A0;split
 · simp only; omega
 · split
   · simp
   · split
     · simp
     · simp only; omega
theorem Ad5 : ∀ p ∈ [11, 12], p < D2 := by
 intro p hp;have : D2 = 1000000 := rfl;simp at hp; omega
set_option maxHeartbeats 4000000 in
theorem Nd {x : SV} {f : Bool} {z : Nat} {b : List UInt8} {most : Int} {h d} (hx : Cd h [x, .pv (.i .i64 most)] = [.pv (.sl f z (Ad b)), .pv (.i .i64 most)]) (hl : A4 [x, .pv (.i .i64 most)] = true) (hz : b = [] ∨ z = 1) (hn : b.length ≤ 300000) (hok : (Bj b [] most).2 = 0) :
 FunOk Try.prog 7 [x, .pv (.i .i64 most)] h d (.tup [.nt d 0, .pv (.i .i64 0)]) [.new d (.nest (Bj b [] most).1)] := by
 refine Ul Cr fn7 (by simp) hl rfl fun F => ?_;rw [hx];simp (disch := omega) only [ir7, go_sem];refine Az (Wm hz (by omega)) ?_;simp (disch := omega) only [go_sem];refine Adp Cr fn11 (by simp) fun l XI hc => ?_;rw [X1 _ _ _ (by show 2 ≤ 1000000; omega)];simp (disch := omega) only [ir11, J9, List.getElem?_cons_zero, go_sem];refine Dw Cr (fun x : List UInt8 × List (List UInt8) => Ade l most x.1 x.2) (fun x => Bj b [] most = Bj x.1 x.2 most ∧ x.2.length + x.1.length ≤ 300000) (fun x => x.1.length) (b, []) ⟨rfl, by simpa using hn⟩ (Vp 6 50 rfl (by decide) (Bi ?_ ?_)) fun x hx => ?_
 · (try simp only [Mn, Mm, Ml, Mk, Mj, Mi, Mh, Mg]); simp (disch := omega) only [go_sem]
 · (try simp only [Mn, Mm, Ml, Mk, Mj, Mi, Mh, Mg]); simp (disch := omega) only [go_sem]
 obtain ⟨r, o⟩ := x;obtain ⟨hu, hlen⟩ := hx;dsimp only at hu hlen ⊢;rw [hu] at hok;rw [hu];by_cases hr : r = []
 · subst hr;rw [Jz]
   (try simp only [Mn, Mm, Ml, Mk, Mj, Mi, Mh, Mg]); simp (disch := omega) only [Ade, Av, List.length_nil, go_sem]
 have hrp : 0 < r.length := List.length_pos_iff.2 hr;have hle := Xj r;have her : Jo r = if (A0 r).2.2 = 0 then if r.length < (A0 r).2.1 + (A0 r).1 then 8 else 0 else (A0 r).2.2 := rfl
 have hfl : Qg r = (r.drop (A0 r).2.1).take (A0 r).1 := rfl;have hrs : Pt r = r.drop ((A0 r).2.1 + (A0 r).1) := rfl;simp (disch := omega) only [Ade, Av, go_sem];refine Az (Aam (f := false) (l := r) rfl rfl hr (by omega)) ?_;have hlt := fun h => S4 hr h;rcases hh : A0 r with ⟨n, fr, e⟩
 rw [hh] at hle her hfl hrs;simp only at hle her hfl hrs;have bad : Jo r = 0 := by
  refine Classical.byContradiction fun h => ?_;rw [Pg hr h] at hok;exact h hok
 by_cases he0 : e = 0
 · subst he0;rw [if_pos rfl] at her;by_cases hcut : r.length < fr + n
   · rw [if_pos hcut] at her;rw [bad] at her; cases her
   · have hgo := hlt bad;have hfe : (r.take (fr + n)).drop fr = Qg r := by rw [hfl, List.drop_take]; congr 1; omega
     have e3 : ((fr : Int) + (n : Int)).toNat = fr + n := by omega
     have hfll : (Qg r).length ≤ 70000 := by rw [hfl, List.length_take]; omega
     (try simp only [Mn, Mm, Ml, Mk, Mj, Mi, Mh, Mg]); simp (disch := omega) only [Av, e3, hfe, go_sem]
     refine Acz Cr hc ?_ rfl fun XA XB => ?_
     · simp (disch := omega) only [go_sem]
     rw [Wa _ _ _ _ Ad5];by_cases hfull : most ≤ o.length
     · rw [N7 hr bad hfull] at hok;cases hok
     · rw [K8 hr bad hfull];simp (disch := omega) only [go_sem];refine ⟨(Pt r, o ++ [Qg r]), ⟨rfl, by simp only [List.length_append, List.length_singleton]; omega⟩, hgo, I4 23 50 (by decide) rfl (Bi ?_ ?_)⟩
       · (try simp only [Mn, Mm, Ml, Mk, Mj, Mi, Mh, Mg]); simp (disch := omega) only [e3, ← hrs, go_sem]
       · (try simp only [Mn, Mm, Ml, Mk, Mj, Mi, Mh, Mg]); simp (disch := omega) only [go_sem]
 · rw [if_neg he0] at her;exact absurd (her.symm.trans bad) he0
theorem Pf (n : Nat) : IntKind.u8.wrap (((n / 256 : Nat) : Int)) = (((UInt8.ofNat (n / 256)).toNat : Nat) : Int) := Ed _
def Ob (f : Bool) (z : Nat) (es : List (List PV)) (L : List (List UInt8)) (k : Nat) : FS := mk [(11, .pv (.i .i64 k)), (10, .pv (.i .i64 L.length)), (9, .pv (.sl f z es)), (4, .os 50)] [(50, some (.row 1 (Ad (Bm (L.take k)))))]
def Bk : List (List UInt8) → Nat
 | [] => 0
 | f :: l => f.length + 3 + Bk l
theorem Je : ∀ L : List (List UInt8), (Bm L).length ≤ Bk L
 | [] => Nat.le_refl _
 | f :: l => by
   have := Je l;simp only [Bm, Bk, List.length_append, L5];split <;> omega
theorem Ii : ∀ (L : List (List UInt8)) (k : Nat), Bk (L.take k) ≤ Bk L
 | [], k => by simp [Bk]
 | f :: l, 0 => by simp [Bk]
 | f :: l, k + 1 => by
   have := Ii l k;simp only [List.take_succ_cons, Bk]; omega
theorem J5 : ∀ {L : List (List UInt8)} {k : Nat}, k < L.length → (L.getD k []).length + 3 ≤ Bk L
 | f :: l, 0, _ => by simp only [Bk, List.getD_cons_zero]; omega
 | f :: l, k + 1, h => by
   have := J5 (L := l) (k := k) (by simpa using h);simp only [Bk, List.getD_cons_succ]; omega
 | [], k, h => by simp at h
set_option maxHeartbeats 4000000 in
theorem Wl {x : SV} {f : Bool} {z : Nat} {es : List (List PV)} {L : List (List UInt8)} {h d} (hx : Cd h [x] = [.pv (.sl f z es)]) (hl : A4 [x] = true) (he : Zg es L) (hz : L = [] ∨ z = 1) (hb : Bk L ≤ 300000) (hall : ∀ b ∈ L, b.length ≤ 65535) :
 FunOk Try.prog 6 [x] h d (.tup [.os d, .pv (.i .i64 0)]) [.new d (.row 1 (Ad (Bm L)))] := by
 refine Xs Cr fn6 (by simp) hl (.inr (Se _)) rfl fun F => ?_;rw [hx];have hel := he.1;have hLn : L.length ≤ 300000 := by
  have : ∀ L : List (List UInt8), L.length ≤ Bk L := fun L => by
   induction L with
   | nil => simp
   | cons f l ih => simp only [Bk, List.length_cons]; omega
  exact Nat.le_trans (this L) hb
 simp (disch := omega) only [ir6, hel, go_sem];refine Dw Cr (Ob f z es L) (fun k => k ≤ L.length) (fun k => L.length - k) 0 (by simp) (I4 8 50 (by decide) rfl (Bi ?_ ?_)) fun k hk => ?_
 · simp (disch := omega) only [go_sem]
 · simp (disch := omega) only [go_sem];rfl
 by_cases hlt : k < L.length
 · have hz1 : z = 1 := hz.resolve_left fun e => by subst e; simp at hlt
   subst hz1;obtain ⟨f', z', hek, hz'⟩ := he.2 k hlt;have hpt := Rm hlt;have hbk : (L.getD k []).length ≤ 65535 := by
    rw [List.getD_eq_getElem?_getD, List.getElem?_eq_getElem hlt];exact hall _ (List.getElem_mem hlt)
   have hpl := J5 hlt;have hpk := Nat.le_trans (Je (L.take k)) (Ii L k);generalize L.getD k [] = b at *;have hzz := Acs hz';have hwn : IntKind.u8.wrap (b.length : Int) = (((UInt8.ofNat b.length).toNat : Nat) : Int) := Ed _;by_cases hs : b.length < 255
   · rw [Oz hs] at hpt;simp (disch := omega) only [Ob, hel, hek, J9, Av, hzz, hwn, List.length_append, go_sem];refine ⟨k + 1, by omega, by omega, I4 38 50 (by decide) rfl (Bi ?_ ?_)⟩
     · simp (disch := omega) only [go_sem]
     · simp (disch := omega) only [hpt, Ad, List.map_append, List.map_cons, List.map_nil, go_sem];simp
   · rw [Qj hs] at hpt;have e8 : ((2 : Int) ^ min (Int.toNat 8) 64) = 256 := rfl;have hsh : ((b.length : Int).fdiv 256) = ((b.length / 256 : Nat) : Int) := by
      rw [Int.fdiv_eq_ediv_of_nonneg _ (by omega)]; omega
     have hwh := Pf b.length;simp (disch := omega) only [Ob, hel, hek, J9, Av, hzz, e8, hsh, hwn, hwh, List.length_append, go_sem];refine ⟨k + 1, by omega, by omega, I4 38 50 (by decide) rfl (Bi ?_ ?_)⟩
     · simp (disch := omega) only [go_sem]
     · simp (disch := omega) only [hpt, Ad, List.map_append, List.map_cons, List.map_nil, go_sem];simp
 · obtain rfl : k = L.length := by omega
   have e := List.take_length (l := L);simp (disch := omega) only [Ob, e, go_sem]
def Cx : List (List UInt8) → Nat
 | [] => 0
 | f :: l => min f.length 3000 + 1 + Cx l
def O1 (L : List (List UInt8)) : Bool := decide (Cx L ≤ 3000)
theorem Nr : ∀ {L : List (List UInt8)} {k : Nat}, k < L.length → Cx (L.take (k + 1)) = Cx (L.take k) + (min (L.getD k []).length 3000 + 1)
 | f :: l, 0, _ => by simp [Cx]
 | f :: l, k + 1, h => by
   have := Nr (L := l) (k := k) (by simpa using h);simp only [List.take_succ_cons, Cx, List.getD_cons_succ] at this ⊢;omega
 | [], k, h => by simp at h
theorem Ns : ∀ (L : List (List UInt8)) (k : Nat), Cx (L.take k) ≤ Cx L
 | [], k => by simp [Cx]
 | f :: l, 0 => by simp [Cx]
 | f :: l, k + 1 => by
   have := Ns l k;simp only [List.take_succ_cons, Cx]; omega
theorem O0 : ∀ {L : List (List UInt8)}, L.length ≤ Cx L
 | [] => Nat.le_refl _
 | f :: l => by have := O0 (L := l); simp only [Cx, List.length_cons]; omega
theorem Tj : ∀ {L : List (List UInt8)}, Cx L ≤ 3000 → ∀ b ∈ L, b.length ≤ 2999
 | [], _ => by simp
 | f :: l, h => by
   simp only [Cx] at h;intro b hb;rcases List.mem_cons.1 hb with rfl | hb
   · omega
   · exact Tj (L := l) (by omega) b hb
theorem Qk : ∀ {L : List (List UInt8)}, Cx L ≤ 3000 → Bk L ≤ 3 * Cx L
 | [], _ => by simp [Bk]
 | f :: l, h => by
   simp only [Cx] at h;have := Qk (L := l) (by omega);simp only [Bk, Cx]; omega
def S2 (f : Bool) (z : Nat) (es : List (List PV)) (L : List (List UInt8)) (k : Nat) : FS := mk [(8, .pv (.i .i64 k)), (7, .pv (.i .i64 L.length)), (6, .pv (.sl f z es)), (3, .pv (.i .i64 (3000 - (Cx (L.take k) : Int))))] []
set_option maxHeartbeats 1000000 in
theorem Agx {x : SV} {f : Bool} {z : Nat} {es : List (List PV)} {L : List (List UInt8)} {h d} (hx : Cd h [x] = [.pv (.sl f z es)]) (hl : A4 [x] = true) (he : Zg es L) (hz : L = [] ∨ z = 1) (hLm : L.length ≤ maxLen) (hbm : ∀ b ∈ L, b.length ≤ maxLen) :
 FunOk Try.prog 5 [x] h d (.pv (.b (O1 L))) [] := by
 refine Hu Cr fn5 (by simp) hl rfl fun F => ?_;rw [hx];have hel := he.1;simp (disch := omega) only [ir5, hel, go_sem];refine Dw Cr (S2 f z es L) (fun k => k ≤ L.length ∧ Cx (L.take k) ≤ 3000) (fun k => L.length - k) 0 (by simp [Cx]) (Bi ?_ ?_) fun k hk => ?_
 · simp (disch := omega) only [List.take_zero, Cx, go_sem]
 · simp (disch := omega) only [go_sem]
 obtain ⟨hk, hfk⟩ := hk;by_cases hlt : k < L.length
 · have hz1 : z = 1 := hz.resolve_left fun e => by subst e; simp at hlt
   subst hz1;obtain ⟨f', z', hek, hz'⟩ := he.2 k hlt;have hft := Nr hlt;have hmo := Ns L (k + 1);have hbk : (L.getD k []).length ≤ maxLen := by
    rw [List.getD_eq_getElem?_getD, List.getElem?_eq_getElem hlt];exact hbm _ (List.getElem_mem hlt)
   generalize L.getD k [] = b at *;have hmn : min (b.length : Int) 3000 = ((min b.length 3000 : Nat) : Int) := by omega
   unfold maxLen at hbk hLm;have hk1 := O0 (L := L.take k);have hk2 : (L.take k).length = k := by simp; omega
   by_cases hov : Cx (L.take (k + 1)) ≤ 3000
   · have e : (3000 : Int) - (Cx (L.take k) : Int) - (((min b.length 3000 : Nat) : Int) + 1) = 3000 - (Cx (L.take (k + 1)) : Int) := by omega
     simp (disch := omega) only [S2, hel, hek, J9, Av, hmn, e, go_sem];refine Ni (k + 1) _ _ rfl ⟨by omega, hov⟩ (by omega) ?_ ?_
     · simp (disch := omega) only [go_sem]
     · simp (disch := omega) only [go_sem]
   · have e : (3000 : Int) - (Cx (L.take k) : Int) - (((min b.length 3000 : Nat) : Int) + 1) = 3000 - (Cx (L.take (k + 1)) : Int) := by omega
     have hb : O1 L = false := by simp [O1]; omega
     simp (disch := omega) only [S2, hel, hek, J9, Av, hmn, e, hb, go_sem]
 · obtain rfl : k = L.length := by omega
   rw [List.take_length] at hfk;have hb : O1 L = true := by simp [O1]; omega
   simp (disch := omega) only [S2, hb, go_sem]
def xE (b : List UInt8) : List PV := [.s b]
theorem Acu (b : List UInt8) (K : KK) : LoadK (some (xE b)) 0 1 false K = K (.pv (.s b)) [] := by
 simp only [LoadK, Zh, eq_iff_iff];exact ⟨fun h => h.2.2, fun h => ⟨by simp [xE], .inr trivial, h⟩⟩
theorem Zl (L : List (List UInt8)) : ∀ c ∈ L.map xE, c.all PV.flat = true := by
 intro c hc;obtain ⟨v, _, rfl⟩ := List.mem_map.1 hc;rfl
def Oa (f : Bool) (z : Nat) (es : List (List PV)) (L : List (List UInt8)) (k : Nat) : FS := mk [(8, .pv (.i .i64 k)), (7, .pv (.i .i64 L.length)), (6, .pv (.sl f z es)), (3, .os 40)] [(40, some (.row 1 ((L.take k).map xE)))]
set_option maxHeartbeats 1000000 in
theorem Gy {x : SV} {f : Bool} {z : Nat} {es : List (List PV)} {L : List (List UInt8)} {h d} (hx : Cd h [x] = [.pv (.sl f z es)]) (hl : A4 [x] = true) (he : Zg es L) (hz : L = [] ∨ z = 1) (hn : L.length ≤ 300000) :
 FunOk Try.prog 9 [x] h d (.os d) [.new d (.row 1 (L.map xE))] := by
 refine Xr Cr fn9 (by simp) hl (.inr (Zl _)) fun F => ?_;rw [hx];have hel := he.1;simp (disch := omega) only [ir9, hel, go_sem];refine Dw Cr (Oa f z es L) (fun k => k ≤ L.length) (fun k => L.length - k) 0 (by simp) (Ac0 3 40 1 rfl (by omega) (Bi ?_ ?_)) fun k hk => ?_
 · simp (disch := omega) only [go_sem]
 · simp (disch := omega) only [go_sem];rfl
 by_cases hlt : k < L.length
 · have hz1 : z = 1 := hz.resolve_left fun e => by subst e; simp at hlt
   subst hz1;obtain ⟨f', z', hek, hz'⟩ := he.2 k hlt;have ht : L.take (k + 1) = L.take k ++ [L.getD k []] := by rw [List.take_add_one, List.getElem?_eq_getElem hlt, List.getD_eq_getElem?_getD, List.getElem?_eq_getElem hlt]; rfl
   generalize L.getD k [] = b at *;have hkl : (L.take k).length ≤ 300000 := by simp; omega
   simp (disch := omega) only [Oa, hel, hek, J9, List.length_map, go_sem];refine ⟨k + 1, by omega, by omega, I4 16 40 (by decide) rfl (Bi ?_ ?_)⟩
   · simp (disch := omega) only [go_sem]
   · simp (disch := omega) only [ht, List.map_append, List.map_cons, List.map_nil, xE, go_sem]
 · obtain rfl : k = L.length := by omega
   have e := List.take_length (l := L);simp (disch := omega) only [Oa, e, go_sem]
def Ko (f g : Bool) (L M : List (List UInt8)) (k : Nat) : FS := mk [(13, .pv (.i .i64 k)), (12, .pv (.i .i64 L.length)), (0, .pv (.sl f 1 (L.map xE))), (1, .pv (.sl g 1 (M.map xE)))] []
set_option maxHeartbeats 1000000 in
theorem Oi {x y : SV} {f g : Bool} {L M : List (List UInt8)} {h d} (hx : Cd h [x, y] = [.pv (.sl f 1 (L.map xE)), .pv (.sl g 1 (M.map xE))]) (hl : A4 [x, y] = true) (hn : L.length ≤ 300000) (hn' : M.length ≤ 300000) :
 FunOk Try.prog 8 [x, y] h d (.pv (.b (decide (L = M)))) [] := by
 refine Hu Cr fn8 (by simp) hl rfl fun F => ?_;rw [hx];by_cases hlen : L.length = M.length
 · have hle : (L.length : Int) = (M.length : Int) := by omega
   simp (disch := omega) only [ir8, List.length_map, hle, go_sem];refine Dw Cr (Ko f g L M) (fun k => k ≤ L.length ∧ L.take k = M.take k) (fun k => L.length - k) 0 (by simp) (Bi ?_ ?_) fun k hk => ?_
   · simp (disch := omega) only [List.length_map, hle, go_sem]
   · simp (disch := omega) only [go_sem]
   obtain ⟨hk, heq⟩ := hk;by_cases hlt : k < L.length
   · have h1 : (L.map xE)[k]? = some (xE L[k]) := by simp [hlt]
     have hm : k < M.length := by omega
     have h2 : (M.map xE)[k]? = some (xE M[k]) := by simp [hm]
     by_cases hd : L[k] = M[k]
     · simp (disch := omega) only [Ko, List.length_map, h1, h2, Acu, hd, go_sem];refine Ni (k + 1) _ _ rfl ⟨by omega, ?_⟩ (by omega) ?_ ?_
       · rw [List.take_add_one, List.take_add_one, heq, List.getElem?_eq_getElem hlt, List.getElem?_eq_getElem hm, hd]
       · simp (disch := omega) only [go_sem]
       · simp (disch := omega) only [go_sem]
     · have hne : ¬ L = M := fun e => hd (by subst e; rfl);simp (disch := omega) only [Ko, List.length_map, h1, h2, Acu, hd, hne, go_sem]
   · obtain rfl : k = L.length := by omega
     have hLM : L = M := by
      rw [List.take_length] at heq;rw [heq, hlen, List.take_length]
     subst hLM
     (try simp only [Mn, Mm, Ml, Mk, Mj, Mi, Mh, Mg]); simp (disch := omega) only [Ko, List.length_map, go_sem]
 · have hle : ¬ (L.length : Int) = (M.length : Int) := by omega
   have hne : ¬ L = M := fun e => hlen (by rw [e]);simp (disch := omega) only [ir8, List.length_map, hle, hne, go_sem]
end Go.Proofs.Ytdikcfjpcgapaaa.Fw
namespace Go.Proofs.Ytdikcfjpcgapaaa.Fw
open Go.RowKit
noncomputable abbrev F4 (w : World) : View := Ak w fun _ => False
theorem Ny {w : World} {a : Addr} {v : Value} (h : w.cell? a = some v) : a.spot = none ∧ ∃ arr, F4 w a.block = some arr ∧ arr[a.off]? = some v := by
 unfold World.cell? at h;split at h
 · rename_i c ty fr hb;split at h
   · cases h
   · rename_i hs;refine ⟨by cases hx : a.spot <;> simp_all, c, ?_, h⟩;unfold F4 Ak A3;simp [hb]
 · cases h
inductive Sh where
 | int (k : IntKind) | bool | str | arr (n : Nat) (s : Sh) | st (l : List Sh) | sl (s : Sh)
mutual
def Sh.w : Sh → Nat
 | .arr n s => n * s.w
 | .st l => Sh.wL l
 | _ => 1
def Sh.wL : List Sh → Nat
 | [] => 0
 | s :: l => s.w + Sh.wL l
end
mutual
def Pd (P : Program) : Sh → TypeId → Bool
 | .int k, t => match P.underlying t with | some (.int k') => decide (k = k') | _ => false
 | .bool, t => match P.underlying t with | some .bool => true | _ => false
 | .str, t => match P.underlying t with | some .string => true | _ => false
 | .arr n s, t => match P.underlying t with | some (.array n' e) => decide (n = n') && decide (P.cellsOf e = s.w) && decide (P.cellsOf t = n * s.w) && Pd P s e | _ => false
 | .st l, t => match P.underlying t with | some (.struct fs) => decide (P.cellsOf t = Sh.wL l) && V6 P l fs.toList 0 | _ => false
 | .sl s, t => match P.underlying t with | some (.slice e) => decide (P.cellsOf e = s.w) && decide (0 < s.w) && Pd P s e | _ => false
def V6 (P : Program) : List Sh → List Field → Nat → Bool
 | [], [], _ => true
 | s :: l, f :: fs, off => decide (f.offset = off) && decide (P.cellsOf f.type = s.w) && Pd P s f.type && V6 P l fs (off + s.w)
 | _, _, _ => false
end
mutual
def GC : Sh → List PV → Prop
 | .int k, cs => ∃ n, cs = [.i k n] ∧ (Lit.int k n).wf = true
 | .bool, cs => ∃ b, cs = [.b b]
 | .str, cs => ∃ l, cs = [.s l] ∧ l.length ≤ maxLen
 | .arr n s, cs => ∃ cc : List (List PV), cs = cc.flatten ∧ cc.length = n ∧ ∀ c ∈ cc, GC s c
 | .st l, cs => GCL l cs
 | .sl s, cs => ∃ es, cs = [.sl false s.w es] ∧ es.length ≤ maxLen ∧ ∀ c ∈ es, GC s c
def GCL : List Sh → List PV → Prop
 | [], cs => cs = []
 | s :: l, cs => ∃ c cs', cs = c ++ cs' ∧ GC s c ∧ GCL l cs'
end
theorem Qi {w : Nat} : ∀ {cc : List (List PV)}, (∀ c ∈ cc, c.length = w) → cc.flatten.length = cc.length * w
 | [], _ => by simp
 | c :: cc, h => by
   rw [List.flatten_cons, List.length_append, Qi fun c hc => h c (by simp [hc]), h c (by simp), List.length_cons, Nat.add_mul]; omega
mutual
theorem GC.len : ∀ {s : Sh} {cs : List PV}, GC s cs → cs.length = s.w
 | .int k, cs, h => by obtain ⟨n, rfl, _⟩ := h; rfl
 | .bool, cs, h => by obtain ⟨n, rfl⟩ := h; rfl
 | .str, cs, h => by obtain ⟨n, rfl, _⟩ := h; rfl
 | .arr n s, cs, h => by
   simp only [GC] at h;obtain ⟨cc, rfl, rfl, h⟩ := h;rw [Qi fun c hc => GC.len (h c hc)]; rfl
 | .st l, cs, h => by simp only [GC] at h; simp only [Sh.w]; exact GCL.len h
 | .sl s, cs, h => by obtain ⟨n, rfl, _⟩ := h; rfl
theorem GCL.len : ∀ {l : List Sh} {cs : List PV}, GCL l cs → cs.length = Sh.wL l
 | [], cs, h => by simp only [GCL] at h; subst h; rfl
 | s :: l, cs, h => by
   simp only [GCL] at h;obtain ⟨c, cs', rfl, h1, h2⟩ := h;rw [List.length_append, GC.len h1, GCL.len h2]; rfl
end
theorem Yi {V : View} {s : Sh} : ∀ (n : Nat) (vs : List Value), vs.length = n * s.w → (∀ i, i < n → ∃ c, GC s c ∧ PCells V c ((vs.drop (i * s.w)).take s.w)) → ∃ cc : List (List PV), cc.length = n ∧ (∀ c ∈ cc, GC s c) ∧ PCells V cc.flatten vs
 | 0, vs, hl, h => by
   have : vs = [] := List.eq_nil_of_length_eq_zero (by omega);subst this;exact ⟨[], rfl, by simp, PCells.nil⟩
 | n + 1, vs, hl, h => by
   rw [Nat.add_mul] at hl;obtain ⟨c, g, p⟩ := h 0 (by omega);rw [Nat.zero_mul, List.drop_zero] at p;obtain ⟨cc, e1, e2, e3⟩ := Yi (V := V) (s := s) n (vs.drop s.w) (by rw [List.length_drop]; omega) fun i hi => by
    obtain ⟨c', g', p'⟩ := h (i + 1) (by omega);refine ⟨c', g', ?_⟩;rw [List.drop_drop, show s.w + i * s.w = (i + 1) * s.w from by rw [Nat.add_mul]; omega];exact p'
   refine ⟨c :: cc, by simp [e1], fun x hx => ?_, ?_⟩
   · rcases List.mem_cons.1 hx with rfl | hx
     · exact g
     · exact e2 x hx
   · rw [List.flatten_cons];have := PCells.append p e3
     rwa [List.take_append_drop] at this
theorem Acj {a : Addr} (h : a.spot = none) (i j : Nat) : (a.add i).add j = ⟨a.block, a.off + (i + j), none⟩ := by
 obtain ⟨b, o, sp⟩ := a;simp only at h; subst h;unfold Addr.add;by_cases hi : i = 0
 · subst hi;by_cases hj : j = 0
   · subst hj; simp
   · simp [hj]
 · by_cases hj : j = 0
   · subst hj; simp [hi]
   · simp [hi, hj]; omega
theorem V1 {w : World} {s : Sh} {a : Addr} {len cap : Nat} (hcap : len ≤ cap) (hw : 0 < s.w)
 (h : ∀ i, i < len → ∃ c vs, GC s c ∧ PCells (F4 w) c vs ∧ w.cells? 0 (a.add (i * s.w)) s.w = some vs) :
 ∃ es : List (List PV), es.length = len ∧ (∀ c ∈ es, GC s c) ∧ PConc (F4 w) (.sl false s.w es) (.slice (some a) len cap) := by
 by_cases h0 : len = 0
 · subst h0;exact ⟨[], rfl, by simp, .sl false s.w [] (some a) cap (fun _ _ => undef) 0 0 #[] (by simp) (by simp) (by simp) (by simp) (by simp) (by simp)⟩
 · have h' : ∀ i, ∃ c vs, i < len → GC s c ∧ PCells (F4 w) c vs ∧ w.cells? 0 (a.add (i * s.w)) s.w = some vs := fun i => by
    by_cases hi : i < len
    · obtain ⟨c, vs, h1⟩ := h i hi; exact ⟨c, vs, fun _ => h1⟩
    · exact ⟨[], [], fun h => absurd h hi⟩
   obtain ⟨c, hc⟩ := Classical.axiomOfChoice h';obtain ⟨vs, hv⟩ := Classical.axiomOfChoice hc;obtain ⟨g0, p0, k0⟩ := hv 0 (by omega);obtain ⟨_, l0, c0⟩ := World.cells?_some k0;have c00 := c0 0 hw;have hlen0 : 0 < (vs 0).length := by omega
   rw [List.getElem?_eq_getElem hlen0, Nat.zero_mul] at c00;have e0 : (a.add 0).add 0 = a := by simp [Addr.add]
   rw [e0] at c00;obtain ⟨hs, arr, harr, _⟩ := Ny c00;have hget : ∀ i j, i < len → j < s.w → arr[a.off + (i * s.w + j)]? = (vs i)[j]? := fun i j hi hj => by
    obtain ⟨_, _, k⟩ := hv i hi;obtain ⟨_, ll, cc⟩ := World.cells?_some k;have h1 := cc j hj;have hlt : j < (vs i).length := by omega
    rw [List.getElem?_eq_getElem hlt, Acj hs] at h1;obtain ⟨_, arr', ha', h2⟩ := Ny h1;simp only at ha' h2;rw [harr] at ha'; cases ha';rw [h2, List.getElem?_eq_getElem hlt]
   have hel : ∀ i, i < len → ((List.range len).map c)[i]? = some (c i) := fun i hi => by simp [hi]
   refine ⟨(List.range len).map c, by simp, fun x hx => ?_, ?_⟩
   · obtain ⟨i, hi, rfl⟩ := List.mem_map.1 hx;exact (hv i (by simpa using hi)).1
   · have e := PConc.sl (V := F4 w) false s.w ((List.range len).map c) (some a) cap (fun i j => (vs i).getD j undef) a.block a.off arr (by simpa using hcap) (by simp) (fun x hx => by
      obtain ⟨i, hi, rfl⟩ := List.mem_map.1 hx;exact (hv i (by simpa using hi)).1.len) (fun _ => by
      obtain ⟨b, o, sp⟩ := a;simp only at hs; subst hs;exact ⟨rfl, harr⟩) (fun i j hi hj => by
      have hi' : i < len := by simpa using hi
      rw [hget i j hi' hj];have : j < (vs i).length := by
       obtain ⟨_, ll, _⟩ := World.cells?_some (hv i hi').2.2; omega
      simp [List.getD_eq_getElem?_getD, this]) (fun i j x y hx hy => by
      have hi' : i < len := by
       have := (List.getElem?_eq_some_iff.1 hx).1; simpa using this
      rw [hel i hi'] at hx; cases hx;obtain ⟨v, hv1, hv2⟩ := (hv i hi').2.1.2 j y hy;simp only [List.getD_eq_getElem?_getD, hv1, Option.getD_some]; exact hv2)
     simpa using e
section
variable {H : Type} {enc : TypeId × Value → H} {P : Program} {w : World} {spare : Nat → Bool} {held : Bool}
mutual
theorem Kn : ∀ (s : Sh) {t : TypeId} {fuel : Nat} {vs : List Value} {x}, Pd P s t = true → DataW.trod enc P w 0 spare held fuel t vs = some x → ∃ cs, GC s cs ∧ PCells (F4 w) cs vs
 | .int k, t, fuel, vs, x, hs, h => by
   simp only [Pd] at hs;split at hs
   · rename_i k' hu;obtain rfl := of_decide_eq_true hs;obtain ⟨n, rfl, _, hw⟩ := DataW.trod_int hu h;exact ⟨[.i k n], ⟨n, rfl, hw⟩, PCells.cons (.i _ _) PCells.nil⟩
   · cases hs
 | .bool, t, fuel, vs, x, hs, h => by
   simp only [Pd] at hs;split at hs
   · rename_i hu;obtain ⟨n, rfl, _⟩ := DataW.trod_bool hu h;exact ⟨[.b n], ⟨n, rfl⟩, PCells.cons (.b _) PCells.nil⟩
   · cases hs
 | .str, t, fuel, vs, x, hs, h => by
   simp only [Pd] at hs;split at hs
   · rename_i hu;obtain ⟨b, rfl, _, hl⟩ := DataW.trod_string hu h;refine ⟨[.s b.data.toList], ⟨b.data.toList, rfl, by simpa using hl⟩, PCells.cons ?_ PCells.nil⟩;have := PConc.s (V := F4 w) b.data.toList;simpa using this
   · cases hs
 | .arr n s, t, fuel, vs, x, hs, h => by
   simp only [Pd] at hs;split at hs
   · rename_i n' e hu;simp only [Bool.and_eq_true, decide_eq_true_eq] at hs;obtain ⟨⟨⟨rfl, h1⟩, h2⟩, h3⟩ := hs;obtain ⟨xs, m, rfl, _, hl, hx, hg⟩ := DataW.trod_array hu h;rw [h1] at hg;obtain ⟨cc, e1, e2, e3⟩ := Yi (V := F4 w) (s := s) n vs (by rw [hl, h2]) fun i hi => by
      have := hg i hi;rw [List.getElem?_eq_getElem (by omega)] at this;exact Kn s h3 this
     exact ⟨cc.flatten, by simp only [GC]; exact ⟨cc, rfl, e1, e2⟩, e3⟩
   · cases hs
 | .st l, t, fuel, vs, x, hs, h => by
   simp only [Pd] at hs;split at hs
   · rename_i fs hu;simp only [Bool.and_eq_true, decide_eq_true_eq] at hs;obtain ⟨h2, h3⟩ := hs;obtain ⟨xs, m, rfl, _, hl, hx, hg⟩ := DataW.trod_struct hu h;obtain ⟨cs, e1, e2⟩ := Ph l (off := 0) (vs := vs) h3 fun f hf => by
      obtain ⟨i, hi⟩ := List.mem_iff_getElem?.1 hf;have hi2 : fs[i]? = some f := by simpa using hi
      have := hg i f hi2;have hlt := (Array.getElem?_eq_some_iff.1 hi2).1;rw [List.getElem?_eq_getElem (by omega)] at this;exact ⟨_, _, this⟩
     rw [List.drop_zero, ← h2, ← hl, List.take_length] at e2;exact ⟨cs, by simp only [GC]; exact e1, e2⟩
   · cases hs
 | .sl s, t, fuel, vs, x, hs, h => by
   simp only [Pd] at hs;split at hs
   · rename_i e hu;simp only [Bool.and_eq_true, decide_eq_true_eq] at hs;obtain ⟨⟨h1, h2⟩, h3⟩ := hs;rcases DataW.trod_slice hu h with ⟨rfl, _⟩ | ⟨a, len, cap, Ba, rest, n, rfl, rfl, _, _, hl, hm, hle, hg, _⟩
     · exact ⟨[.sl false s.w []], by simp only [GC]; exact ⟨[], rfl, by simp, by simp⟩, PCells.cons (.sl false s.w [] none 0 (fun _ _ => undef) 0 0 #[] (by simp) (by simp) (by simp) (by simp) (by simp) (by simp)) PCells.nil⟩
     · rw [h1] at hg;obtain ⟨es, e1, e2, e3⟩ := V1 (w := w) (s := s) (a := a) hl h2 fun i hi => by
        have h4 := hg i hi;rw [List.getElem?_eq_getElem (by omega)] at h4;obtain ⟨vs, h5, h6⟩ := Option.bind_eq_some_iff.1 h4;obtain ⟨c, g, p⟩ := Kn s h3 h6;exact ⟨c, vs, g, p, h5⟩
       exact ⟨[.sl false s.w es], by simp only [GC]; exact ⟨es, rfl, by omega, e2⟩, PCells.cons e3 PCells.nil⟩
   · cases hs
theorem Ph : ∀ (l : List Sh) {fs : List Field} {off : Nat} {vs : List Value}, V6 P l fs off = true →
 (∀ f ∈ fs, ∃ n x, DataW.trod enc P w 0 spare held n f.type ((vs.drop f.offset).take (P.cellsOf f.type)) = some x) → ∃ cs, GCL l cs ∧ PCells (F4 w) cs ((vs.drop off).take (Sh.wL l))
 | [], fs, off, vs, hs, h => ⟨[], by simp only [GCL], by simp only [Sh.wL, List.take_zero]; exact PCells.nil⟩
 | s :: l, [], off, vs, hs, h => by simp [V6] at hs
 | s :: l, f :: fs, off, vs, hs, h => by
   simp only [V6, Bool.and_eq_true, decide_eq_true_eq] at hs;obtain ⟨⟨⟨h1, h2⟩, h3⟩, h4⟩ := hs;obtain ⟨n, x, hx⟩ := h f (by simp);obtain ⟨c, g, p⟩ := Kn s h3 hx;obtain ⟨cs, gl, pl⟩ := Ph l (vs := vs) h4 fun f hf => h f (by simp [hf]);refine ⟨c ++ cs, by simp only [GCL]; exact ⟨c, cs, rfl, g, gl⟩, ?_⟩;rw [h1, h2] at p;have := PCells.append p pl;have e : (vs.drop off).take (Sh.wL (s :: l)) = (vs.drop off).take s.w ++ (vs.drop (off + s.w)).take (Sh.wL l) := by
    simp only [Sh.wL];rw [List.take_add, List.drop_drop]
   rw [e]; exact this
end
end
mutual
def Ey : Sh → List PV → SV
 | .arr n s, cs => .vec (n * s.w) cs
 | .st l, cs => .agg (Hn l cs)
 | _, cs => .pv (cs.headD (.b false))
def Hn : List Sh → List PV → List SV
 | [], _ => []
 | s :: l, cs => (Ey s (cs.take s.w)).segs ++ Hn l (cs.drop s.w)
end
def Sh.isAg : Sh → Bool
 | .arr _ _ => true
 | .st _ => true
 | _ => false
theorem Iy {V : View} {ρ : Nat → Value} : ∀ {l m : List SV} {a b : List Value}, Cells V ρ l a → Cells V ρ m b → Cells V ρ (l ++ m) (a ++ b)
 | [], m, a, b, h1, h2 => by simp only [Cells] at h1; subst h1; exact h2
 | x :: l, m, a, b, h1, h2 => by
   simp only [Cells, List.cons_append] at h1 ⊢;obtain ⟨u, us, rfl, c, d, e, f⟩ := h1;exact ⟨u, us ++ b, by simp, c, d, e, Iy f h2⟩
mutual
theorem Nx {V : View} {ρ : Nat → Value} : ∀ (s : Sh) {cs : List PV} {v : Value}, GC s cs → PCells V cs (Ag v) → (s.isAg = true → ∃ vs, v = .agg ⟨vs⟩) → (s.isAg = false → ∀ vs, v ≠ .agg vs) → Conc V ρ (Ey s cs) v
 | .int k, cs, v, g, p, _, h => by
   obtain ⟨n, rfl, _⟩ := g;have e : Ag v = [v] := by cases v <;> first | rfl | exact absurd rfl (h rfl _)
   rw [e] at p;obtain ⟨v', h1, h2⟩ := p.2 0 _ rfl;simp at h1; subst h1;simp only [Ey, Conc, List.headD_cons]; exact h2
 | .bool, cs, v, g, p, _, h => by
   obtain ⟨n, rfl⟩ := g;have e : Ag v = [v] := by cases v <;> first | rfl | exact absurd rfl (h rfl _)
   rw [e] at p;obtain ⟨v', h1, h2⟩ := p.2 0 _ rfl;simp at h1; subst h1;simp only [Ey, Conc, List.headD_cons]; exact h2
 | .str, cs, v, g, p, _, h => by
   obtain ⟨n, rfl, _⟩ := g;have e : Ag v = [v] := by cases v <;> first | rfl | exact absurd rfl (h rfl _)
   rw [e] at p;obtain ⟨v', h1, h2⟩ := p.2 0 _ rfl;simp at h1; subst h1;simp only [Ey, Conc, List.headD_cons]; exact h2
 | .sl s, cs, v, g, p, _, h => by
   simp only [GC] at g;obtain ⟨n, rfl, _⟩ := g;have e : Ag v = [v] := by cases v <;> first | rfl | exact absurd rfl (h rfl _)
   rw [e] at p;obtain ⟨v', h1, h2⟩ := p.2 0 _ rfl;simp at h1; subst h1;simp only [Ey, Conc, List.headD_cons]; exact h2
 | .arr n s, cs, v, g, p, h, _ => by
   obtain ⟨vs, rfl⟩ := h rfl;have hl := g.len;simp only [Ey, Conc];refine ⟨vs, rfl, ?_, p⟩;have e1 : vs.length = cs.length := p.1.symm;rw [e1, hl]; rfl
 | .st l, cs, v, g, p, h, _ => by
   obtain ⟨vs, rfl⟩ := h rfl;simp only [GC] at g;simp only [Ey, Conc];exact ⟨vs, rfl, Gm l g p⟩
theorem Gm {V : View} {ρ : Nat → Value} : ∀ (l : List Sh) {cs : List PV} {vs : List Value}, GCL l cs → PCells V cs vs → Cells V ρ (Hn l cs) vs
 | [], cs, vs, g, p => by
   simp only [GCL] at g; subst g;have : vs = [] := List.eq_nil_of_length_eq_zero (by rw [← p.1]; rfl);subst this;simp only [Hn, Cells]
 | s :: l, cs, vs, g, p => by
   simp only [GCL] at g;obtain ⟨c, cs', rfl, g1, g2⟩ := g;have hl := g1.len;have p1 : PCells V c (vs.take c.length) := by
    have := p.split c.length |>.1;simpa using this
   have p2 : PCells V cs' (vs.drop c.length) := by
    have := p.split c.length |>.2;simpa using this
   have hvs : vs = vs.take c.length ++ vs.drop c.length := (List.take_append_drop _ _).symm;have hlen : (vs.take c.length).length = s.w := by rw [← p1.1, hl]
   simp only [Hn];rw [List.take_left' hl, List.drop_left' hl];rw [hvs];refine Iy ?_ (Gm l g2 p2);cases s with
   | st m =>
     simp only [GC] at g1;simp only [Ey, SV.segs];exact Gm m g1 p1
   | arr n s' =>
     have := Nx (V := V) (ρ := ρ) (.arr n s') (v := .agg ⟨vs.take c.length⟩) g1 (by simpa [Ag] using p1) (fun _ => ⟨_, rfl⟩) (by simp [Sh.isAg]);simp only [Ey] at this ⊢;simp only [SV.segs, Cells];exact ⟨_, [], by simp [Ag], this, by simpa [Ag, SV.width, Sh.w] using hlen, fun v hv => p1.one v (by simpa [Ag] using hv), rfl⟩
   | int k =>
     obtain ⟨n, rfl, _⟩ := g1;obtain ⟨v, h1, h2⟩ := p1.2 0 _ rfl;have e : vs.take [PV.i k n].length = [v] := by
      match hx : vs.take [PV.i k n].length, h1, hlen with
      | [u], h1, _ => simp at h1; rw [h1]
     have ho := h2.one;have fv : Ag v = [v] := by cases v <;> first | rfl | exact absurd ho (by simp [Al])
     rw [e];simp only [Ey, SV.segs, Cells, Conc, List.headD_cons];exact ⟨v, [], by rw [fv]; rfl, h2, by rw [fv]; rfl, by rw [fv]; simpa using ho, rfl⟩
   | bool =>
     obtain ⟨n, rfl⟩ := g1;obtain ⟨v, h1, h2⟩ := p1.2 0 _ rfl;have e : vs.take [PV.b n].length = [v] := by
      match hx : vs.take [PV.b n].length, h1, hlen with
      | [u], h1, _ => simp at h1; rw [h1]
     have ho := h2.one;have fv : Ag v = [v] := by cases v <;> first | rfl | exact absurd ho (by simp [Al])
     rw [e];simp only [Ey, SV.segs, Cells, Conc, List.headD_cons];exact ⟨v, [], by rw [fv]; rfl, h2, by rw [fv]; rfl, by rw [fv]; simpa using ho, rfl⟩
   | str =>
     obtain ⟨n, rfl, _⟩ := g1;obtain ⟨v, h1, h2⟩ := p1.2 0 _ rfl;have e : vs.take [PV.s n].length = [v] := by
      match hx : vs.take [PV.s n].length, h1, hlen with
      | [u], h1, _ => simp at h1; rw [h1]
     have ho := h2.one;have fv : Ag v = [v] := by cases v <;> first | rfl | exact absurd ho (by simp [Al])
     rw [e];simp only [Ey, SV.segs, Cells, Conc, List.headD_cons];exact ⟨v, [], by rw [fv]; rfl, h2, by rw [fv]; rfl, by rw [fv]; simpa using ho, rfl⟩
   | sl s' =>
     simp only [GC] at g1;obtain ⟨n, rfl, _⟩ := g1;obtain ⟨v, h1, h2⟩ := p1.2 0 _ rfl;have e : vs.take [PV.sl false s'.w n].length = [v] := by
      match hx : vs.take [PV.sl false s'.w n].length, h1, hlen with
      | [u], h1, _ => simp at h1; rw [h1]
     have ho := h2.one;have fv : Ag v = [v] := by cases v <;> first | rfl | exact absurd ho (by simp [Al])
     rw [e];simp only [Ey, SV.segs, Cells, Conc, List.headD_cons];exact ⟨v, [], by rw [fv]; rfl, h2, by rw [fv]; rfl, by rw [fv]; simpa using ho, rfl⟩
end
mutual
theorem Pj : ∀ (s : Sh) (cs : List PV), (Ey s cs).closed = true
 | .int k, cs => rfl
 | .bool, cs => rfl
 | .str, cs => rfl
 | .sl s, cs => rfl
 | .arr n s, cs => rfl
 | .st l, cs => by simp only [Ey, SV.closed]; exact Eo l cs
theorem Eo : ∀ (l : List Sh) (cs : List PV), SV.closedL (Hn l cs) = true
 | [], cs => rfl
 | s :: l, cs => by
   simp only [Hn];have h2 := Eo l (cs.drop s.w);have app : ∀ (a b : List SV), SV.closedL a = true → SV.closedL b = true → SV.closedL (a ++ b) = true := fun a b ha hb => by
    induction a with
    | nil => exact hb
    | cons x a ih => simp only [SV.closedL, Bool.and_eq_true, List.cons_append] at ha ⊢; exact ⟨ha.1, ih ha.2⟩
   refine app _ _ ?_ h2;cases s with
   | st m => simp only [Ey, SV.segs]; exact Eo m _
   | int k => rfl
   | bool => rfl
   | str => rfl
   | sl s => rfl
   | arr n s => rfl
end
theorem T1 {P : Program} {w : World} {base : Nat} {t : TypeId} {v : Value} : ∀ {s : Sh}, Pd P s t = true → Value.okWide P w .any base t v → (s.isAg = true → ∃ vs, v = .agg ⟨vs⟩) ∧ (s.isAg = false → ∀ vs, v ≠ .agg vs)
 | .int k, hs, h => by
   simp only [Pd] at hs;split at hs
   · rename_i k' hu;obtain ⟨n, rfl⟩ := WideShapes.okWide_int hu h;exact ⟨fun h => (by cases h), fun _ vs e => by cases e⟩
   · cases hs
 | .bool, hs, h => by
   simp only [Pd] at hs;split at hs
   · rename_i hu;obtain ⟨n, rfl⟩ := WideShapes.okWide_bool hu h;exact ⟨fun h => (by cases h), fun _ vs e => by cases e⟩
   · cases hs
 | .str, hs, h => by
   simp only [Pd] at hs;split at hs
   · rename_i hu;obtain ⟨n, rfl⟩ := WideShapes.okWide_string hu h;exact ⟨fun h => (by cases h), fun _ vs e => by cases e⟩
   · cases hs
 | .sl s, hs, h => by
   simp only [Pd] at hs;split at hs
   · rename_i e hu;obtain ⟨a, b, c, rfl⟩ := WideShapes.okWide_slice hu h;exact ⟨fun h => (by cases h), fun _ vs e => by cases e⟩
   · cases hs
 | .arr n s, hs, h => by
   simp only [Pd] at hs;split at hs
   · rename_i n' e hu;simp only [Value.okWide, hu] at h;obtain ⟨⟨xs⟩, rfl, _⟩ := h;exact ⟨fun _ => ⟨_, rfl⟩, fun h => (by cases h)⟩
   · cases hs
 | .st l, hs, h => by
   simp only [Pd] at hs;split at hs
   · rename_i fs hu;simp only [Value.okWide, hu] at h;obtain ⟨⟨xs⟩, rfl, _⟩ := h;exact ⟨fun _ => ⟨_, rfl⟩, fun h => (by cases h)⟩
   · cases hs
theorem Yj {H : Type} {enc : TypeId × Value → H} {P : Program} {w : World} {spare : Nat → Bool} {held : Bool} {base : Nat} {t : TypeId} {v : Value} {d : DataW H} {ps : List MemPlace} {s : Sh} (hs : Pd P s t = true)
 (hv : Value.okWide P w .any base t v) (h : DataW.Trod enc P w 0 spare held t v d ps) : ∃ cs, GC s cs ∧ Conc (F4 w) (fun _ => undef) (Ey s cs) v := by
 obtain ⟨fuel, hf⟩ := h;obtain ⟨cs, g, p⟩ := Kn s hs hf;rw [B9] at p;obtain ⟨h1, h2⟩ := T1 hs hv;exact ⟨cs, g, Nx s g p h1 h2⟩
end Go.Proofs.Ytdikcfjpcgapaaa.Fw
namespace Go.Proofs.Ytdikcfjpcgapaaa.Fw
open Go.RowKit
theorem Agj {n : Int} (h : (Lit.int .u8 n).wf = true) : 0 ≤ n ∧ n < 256 := by
 simp [Lit.wf, IntKind.min, IntKind.max, IntKind.signed, IntKind.bits] at h; omega
theorem Ze {cs : List PV} (h : GC (.sl (.int .u8)) cs) : ∃ l : List UInt8, cs = [.sl false 1 (Ad l)] ∧ l.length ≤ maxLen := by
 simp only [GC] at h;obtain ⟨es, rfl, hl, g⟩ := h;have key : ∀ es : List (List PV), (∀ c ∈ es, ∃ n, c = [PV.i .u8 n] ∧ (Lit.int .u8 n).wf = true) → ∃ l : List UInt8, es = Ad l := fun es => by
  induction es with
  | nil => intro _; exact ⟨[], rfl⟩
  | cons c es ih =>
    intro h;obtain ⟨n, rfl, hw⟩ := h c (by simp);obtain ⟨l, rfl⟩ := ih fun c hc => h c (by simp [hc]);have hr := Agj hw;refine ⟨UInt8.ofNat n.toNat :: l, ?_⟩;simp only [Ad, List.map_cons];rw [UInt8.toNat_ofNat', show n.toNat % 2 ^ 8 = n.toNat from Nat.mod_eq_of_lt (by omega), show ((n.toNat : Nat) : Int) = n from by omega]
 obtain ⟨l, rfl⟩ := key es g;exact ⟨l, rfl, by simpa [Ad] using hl⟩
theorem Aiv {s : Sh} {cs : List PV} (h : GC (.sl s) cs) : ∃ es, cs = [.sl false s.w es] ∧ es.length ≤ maxLen ∧ ∀ c ∈ es, GC s c := by
 simp only [GC] at h; exact h
end Go.Proofs.Ytdikcfjpcgapaaa.Fw
namespace Go.Proofs.Ytdikcfjpcgapaaa.Fw
open Go.RowKit Go.Proofs
theorem Sf : Zg [[.sl false 1 [[.i .u8 97]]], [.sl true 0 []]] [[97], []] := ⟨rfl, fun k hk => by
 have : k = 0 ∨ k = 1 := by simp at hk; omega
 rcases this with rfl | rfl
 · exact ⟨false, 1, rfl, .inr rfl⟩
 · exact ⟨true, 0, rfl, .inl rfl⟩⟩
theorem W2 {h d} : FunOk Try.prog 4 [] h d (.pv (.b true)) [] := by
 refine Qf Cr fn4 (by simp) rfl rfl fun F => ?_;simp (disch := omega) only [ir4, go_sem];refine ⟨by simp, Az (Wl (f := false) (z := 1) (L := [[97], []]) rfl rfl Sf (.inr rfl) (by decide) (by decide)) ?_⟩;simp (disch := omega) only [go_sem];have hp : Bm [[97], []] = [1, 97, 0] := rfl;rw [hp];have hu : Bj [1, 97, 0] [] 2 = ([[97], []], 0) := by
  have := K7 [[97], []] 2 (by decide) (by decide);rw [hp] at this; exact this
 refine Az (FunOk.frzn rfl (Nd (f := false) (z := 1) (b := [1, 97, 0]) (most := 2) rfl rfl (.inr rfl) (by decide) (by rw [hu]))) ?_;simp (disch := omega) only [hu, G1, List.map_cons, List.map_nil, List.getElem?_cons_zero, J9, go_sem]
theorem Aiw {cs : List PV} (h : GC (.sl (.int .u8)) cs) : ∃ b : List UInt8, cs = bE b ∧ b.length ≤ maxLen := Ze h
theorem X2 {α : Type} {f : α → List PV} {p : α → Prop} {s : Sh} (key : ∀ {cs}, GC s cs → ∃ x, cs = f x ∧ p x) : ∀ {es : List (List PV)}, (∀ c ∈ es, GC s c) → ∃ l : List α, es = l.map f ∧ ∀ x ∈ l, p x
 | [], _ => ⟨[], rfl, by simp⟩
 | c :: es, h => by
   obtain ⟨l, e, hp⟩ := X2 (es := es) key fun c hc => h c (List.mem_cons_of_mem _ hc);obtain ⟨x, e2, hx⟩ := key (h c List.mem_cons_self);exact ⟨x :: l, by rw [e, e2]; rfl, fun y hy => by
    rcases List.mem_cons.1 hy with hy | hy
    · rw [hy]; exact hx
    · exact hp y hy⟩
def stO (L : List (List UInt8)) (k : Nat) : FS := mk [(23, .pv (.i .i64 k)), (22, .pv (.i .i64 L.length)), (21, .pv (.sl false 1 (L.map bE))), (0, .pv (.sl false 1 (L.map bE))), (3, .nt 60 0)] [(60, some (.nest (L.take k)))]
def stP (L : List (List UInt8)) (n : Nat) (k : Nat) (B : List UInt8) : FS := mk [(48, .pv (.i .i64 k)), (47, .pv (.i .i64 n)), (6, .os 36), (0, .pv (.sl false 1 (L.map bE))), (3, .nt 60 0), (8, .nt 43 0), (9, .pv (.i .i64 0))] [(60, some (.nest L)), (36, some (.row 1 (Ad B))), (43, some (.nest L))]
def stQ (L : List (List UInt8)) (k : Nat) (M : List (List UInt8)) : FS := mk [(78, .pv (.i .i64 k)), (77, .pv (.i .i64 L.length)), (0, .pv (.sl false 1 (L.map bE))), (3, .nt 60 0), (8, .nt 43 0)] [(60, some (.nest L)), (43, some (.nest M))]
def Adc (L : List (List UInt8)) (k n j : Nat) (M : List (List UInt8)) : FS := mk [(86, .pv (.i .i64 j)), (85, .pv (.i .i64 n)), (11, .pv (.i .i64 k)), (78, .pv (.i .i64 k)), (77, .pv (.i .i64 L.length)), (0, .pv (.sl false 1 (L.map bE))), (3, .nt 60 0), (8, .nt 43 0)] [(60, some (.nest L)), (43, some (.nest M))]
theorem Ah9 {a : List UInt8} {k : Nat} (h : k < a.length) : (Ad a)[k]? = some [.i .u8 ((a.getD k 0).toNat)] := by
 rw [Ad, List.getElem?_map, List.getElem?_eq_getElem h, List.getD_eq_getElem?_getD, List.getElem?_eq_getElem h]; rfl
set_option maxHeartbeats 4000000 in
theorem Ael (L : List (List UInt8)) (hLL : L.length ≤ maxLen) (hLb : ∀ b ∈ L, b.length ≤ maxLen) {h d} :
 FunOk Try.prog 3 [.pv (.sl false 1 (L.map bE))] h d (.pv (.b true)) [] := by
 refine Qf Cr fn3 (by simp) rfl rfl fun F => ?_;simp (disch := omega) only [ir3, List.length_map, go_sem];refine Az W2 ?_;simp (disch := omega) only [go_sem];refine Az (Agx (f := false) (z := 1) (L := L) rfl rfl (Dp L) (.inr rfl) hLL hLb) ?_;by_cases hf : Cx L ≤ 3000
 case neg =>
  have e : O1 L = false := by simp [O1]; omega
  simp (disch := omega) only [e, go_sem];refine Az W2 ?_;simp (disch := omega) only [go_sem]
 have eL : O1 L = true := by simp [O1]; omega
 have hlL := O0 (L := L);have haL : ∀ b ∈ L, b.length ≤ 65535 := fun b hb => by have := Tj hf b hb; omega
 have hpL := Qk hf;have hqL := Je L;have hu := K7 L ((L.length : Nat) : Int) haL (by omega);simp (disch := omega) only [eL, List.length_map, go_sem];refine Dw Cr (stO L) (fun k => k ≤ L.length) (fun k => L.length - k) 0 (by simp) (Zm 3 60 rfl (Bi ?_ ?_)) fun k hk => ?_
 · simp (disch := omega) only [List.length_map, go_sem]
 · simp (disch := omega) only [List.take_zero, go_sem]
 by_cases hlt : k < L.length
 · have h1 : (L.map bE)[k]? = some [.sl false 1 (Ad L[k])] := by simp [hlt, bE]
   have ht : L.take (k + 1) = L.take k ++ [L[k]] := by rw [List.take_add_one, List.getElem?_eq_getElem hlt]; rfl
   have hkl : (L.take k).length ≤ 3000 := by simp; omega
   have hbl := haL L[k] (List.getElem_mem hlt);generalize L[k] = b at *;simp (disch := omega) only [stO, List.length_map, h1, J9, Av, go_sem];refine ⟨k + 1, by omega, by omega, I4 32 60 (by decide) rfl (Bi ?_ ?_)⟩
   · simp (disch := omega) only [List.length_map, go_sem]
   · simp (disch := omega) only [ht, go_sem]
 have ek : k = L.length := by omega
 subst ek;have etk := List.take_length (l := L);simp (disch := omega) only [stO, etk, go_sem];refine Az (Wl (f := false) (z := 1) (L := L) rfl rfl (Dp L) (.inr rfl) (by omega) haL) ?_;simp (disch := omega) only [List.length_map, go_sem];refine Az (Nd (f := false) (z := 1) (b := Bm L) (most := ((L.length : Nat) : Int)) rfl rfl (.inr rfl) (by omega) (by rw [hu])) ?_;simp (disch := omega) only [hu, Av, go_sem];refine Dw Cr (fun x : Nat × List UInt8 => stP L (Bm L).length x.1 x.2) (fun x => x.1 ≤ (Bm L).length ∧ x.2.length = (Bm L).length) (fun x => (Bm L).length - x.1) (0, Bm L) ⟨Nat.zero_le _, rfl⟩ (Bi ?_ ?_) fun x hx => ?_
 · (try simp only [Mn, Mm, Ml, Mk, Mj, Mi, Mh, Mg]); simp (disch := omega) only [go_sem]
 · (try simp only [Mn, Mm, Ml, Mk, Mj, Mi, Mh, Mg]); simp (disch := omega) only [go_sem]
 obtain ⟨k, B⟩ := x;obtain ⟨hk, hB⟩ := hx;dsimp only at hk hB ⊢;by_cases hlt : k < (Bm L).length
 · have hkB : k < B.length := by omega
   have hat : (Ad B)[k]? = some [.i .u8 (B.getD k 0).toNat] := Ah9 hkB;have hgd : (Ad B).getD k [] = [.i .u8 (B.getD k 0).toNat] := by rw [List.getD_eq_getElem?_getD, hat]; rfl
   have hw : IntKind.u8.wrap (((B.getD k 0).toNat : Int) + 1) = ((UInt8.ofNat ((B.getD k 0).toNat + 1)).toNat : Int) := Ed _;have hset := Aac (l := B) (k := k) (UInt8.ofNat ((B.getD k 0).toNat + 1));simp (disch := omega) only [stP, Av, hat, Tc, hgd, hw, M9, hset, go_sem];refine ⟨(k + 1, B.set k (UInt8.ofNat ((B.getD k 0).toNat + 1))), ⟨by show k + 1 ≤ _; omega, by show (B.set _ _).length = _; rw [List.length_set]; exact hB⟩, by show (Bm L).length - (k + 1) < (Bm L).length - k; omega, Bi ?_ ?_⟩
   · (try simp only [Mn, Mm, Ml, Mk, Mj, Mi, Mh, Mg]); simp (disch := omega) only [go_sem]
   · (try simp only [Mn, Mm, Ml, Mk, Mj, Mi, Mh, Mg]); simp (disch := omega) only [go_sem]
 have ek : k = (Bm L).length := by omega
 subst ek;simp (disch := omega) only [stP, go_sem];refine Az (Gy (f := false) (z := 1) (L := L) rfl rfl (Dp L) (.inr rfl) (by omega)) ?_;simp (disch := omega) only [go_sem];refine Az (Gy (f := false) (z := 1) (L := L) rfl rfl (Dp L) (.inr rfl) (by omega)) ?_;simp (disch := omega) only [go_sem];refine Az (Oi (L := L) (M := L) rfl rfl (by omega) (by omega)) ?_
 (try simp only [Mn, Mm, Ml, Mk, Mj, Mi, Mh, Mg]); simp (disch := omega) only [go_sem]
 refine Az (Gy (f := false) (z := 1) (L := L) rfl rfl (Dp L) (.inr rfl) (by omega)) ?_;simp (disch := omega) only [go_sem];refine Az (Gy (f := false) (z := 1) (L := L) rfl rfl (Dp L) (.inr rfl) (by omega)) ?_;simp (disch := omega) only [go_sem];refine Az (Oi (L := L) (M := L) rfl rfl (by omega) (by omega)) ?_
 (try simp only [Mn, Mm, Ml, Mk, Mj, Mi, Mh, Mg]); simp (disch := omega) only [go_sem]
 refine Dw Cr (fun x : Nat × List (List UInt8) => stQ L x.1 x.2) (fun x => x.1 ≤ L.length ∧ x.2.length = L.length ∧ ∀ b ∈ x.2, b.length ≤ 65535) (fun x => L.length - x.1) (0, L) ⟨Nat.zero_le _, rfl, haL⟩ (Bi ?_ ?_) fun x hx => ?_
 · (try simp only [Mn, Mm, Ml, Mk, Mj, Mi, Mh, Mg]); simp (disch := omega) only [go_sem]
 · (try simp only [Mn, Mm, Ml, Mk, Mj, Mi, Mh, Mg]); simp (disch := omega) only [go_sem]
 obtain ⟨k, M⟩ := x;obtain ⟨hk, hM, hMb⟩ := hx;dsimp only at hk hM hMb ⊢;by_cases hlt : k < L.length
 · have hkM : k < M.length := by omega
   obtain ⟨m, hm⟩ : ∃ m, M[k]? = some m := ⟨_, List.getElem?_eq_getElem hkM⟩
   have hml := hMb m (List.mem_of_getElem? hm);simp (disch := omega) only [stQ, hm, hM, go_sem];refine Dw Cr (fun x : Nat × List UInt8 => Adc L k m.length x.1 (M.set k x.2)) (fun x => x.1 ≤ m.length ∧ x.2.length = m.length) (fun x => m.length - x.1) (0, m) ⟨Nat.zero_le _, rfl⟩ (Bi ?_ ?_) fun x hx => ?_
   · (try simp only [Mn, Mm, Ml, Mk, Mj, Mi, Mh, Mg]); simp (disch := omega) only [go_sem]
   · have e : M.set k m = M := by
      refine List.ext_getElem? fun i => ?_;rw [List.getElem?_set];split
      · rename_i e; subst e; exact hm.symm
      · rfl
     (try simp only [Mn, Mm, Ml, Mk, Mj, Mi, Mh, Mg]); simp (disch := omega) only [e, go_sem]
   obtain ⟨j, r⟩ := x;obtain ⟨hj, hr⟩ := hx;dsimp only at hj hr ⊢;by_cases hlt2 : j < m.length
   · have hMk : (M.set k r)[k]? = some r := by rw [List.getElem?_set]; simp [hkM]
     have hMl : (M.set k r).length = L.length := by rw [List.length_set]; exact hM
     have hjr : j < r.length := by omega
     have hb := Aax hjr;have hw : IntKind.u8.wrap (((r.getD j 0).toNat : Int) + 1) = ((UInt8.ofNat ((r.getD j 0).toNat + 1)).toNat : Int) := Ed _;have hst := Zz (b := UInt8.ofNat ((r.getD j 0).toNat + 1)) hMk hjr rfl;have hss : (M.set k r).set k (r.set j (UInt8.ofNat ((r.getD j 0).toNat + 1))) = M.set k (r.set j (UInt8.ofNat ((r.getD j 0).toNat + 1))) := List.set_set ..;simp (disch := omega) only [Adc, hMk, hMl, hb, hw, hst, hr, go_sem];refine ⟨(j + 1, r.set j (UInt8.ofNat ((r.getD j 0).toNat + 1))), ⟨by show j + 1 ≤ _; omega, by show (r.set _ _).length = _; rw [List.length_set]; exact hr⟩, by show m.length - (j + 1) < m.length - j; omega, Bi ?_ ?_⟩
     · (try simp only [Mn, Mm, Ml, Mk, Mj, Mi, Mh, Mg]); simp (disch := omega) only [go_sem]
     · (try simp only [Mn, Mm, Ml, Mk, Mj, Mi, Mh, Mg]); simp (disch := omega) only [hss, go_sem]
   have ej : j = m.length := by omega
   subst ej;simp (disch := omega) only [Adc, go_sem];refine ⟨(k + 1, M.set k r), ⟨by show k + 1 ≤ _; omega, by show (M.set _ _).length = _; rw [List.length_set]; exact hM, fun b hb => (List.mem_or_eq_of_mem_set hb).elim (hMb b) fun e => by rw [e, hr]; exact hml⟩, by show L.length - (k + 1) < L.length - k; omega, Bi ?_ ?_⟩
   · (try simp only [Mn, Mm, Ml, Mk, Mj, Mi, Mh, Mg]); simp (disch := omega) only [go_sem]
   · (try simp only [Mn, Mm, Ml, Mk, Mj, Mi, Mh, Mg]); simp (disch := omega) only [go_sem]
 have ek : k = L.length := by omega
 subst ek;simp (disch := omega) only [stQ, go_sem];refine Az (Gy (f := false) (z := 1) (L := L) rfl rfl (Dp L) (.inr rfl) (by omega)) ?_;simp (disch := omega) only [go_sem];refine Az (Gy (f := false) (z := 1) (L := L) rfl rfl (Dp L) (.inr rfl) (by omega)) ?_;simp (disch := omega) only [go_sem];refine Az (Oi (L := L) (M := L) rfl rfl (by omega) (by omega)) ?_
 (try simp only [Mn, Mm, Ml, Mk, Mj, Mi, Mh, Mg]); simp (disch := omega) only [go_sem]
theorem M4 {c0 : List PV} (g0 : GC (.sl (.sl (.int .u8))) c0) {h d} :
 FunOk Try.prog 3 [Ey (.sl (.sl (.int .u8))) c0] h d (.pv (.b true)) [] := by
 obtain ⟨es, rfl, h1, g0⟩ := Aiv g0;obtain ⟨A, rfl, hA⟩ := X2 (f := bE) Aiw g0;exact Ael A (by simpa using h1) hA
end Go.Proofs.Ytdikcfjpcgapaaa.Fw
