/- What the functions that the law CodecPacks reaches compute. -/
import Derived.Test.YtfkmlmckihmihaaIr
import Derived.OpenShut
import Derived.ShutString
import Derived.ChangeOld
import Derived.SizedLaws
import Derived.ChangeOld
import Derived.OpenShut
import Derived.ShutString
import Derived.SizedLaws
set_option linter.unusedVariables false
set_option linter.unusedSimpArgs false
set_option linter.unusedSectionVars false
set_option maxRecDepth 100000
namespace Go.Proofs.Ytfkmlmckihmihaa.Fw
end Go.Proofs.Ytfkmlmckihmihaa.Fw
namespace Go.Proofs.Ytfkmlmckihmihaa.Fw
def fieldB (f : List UInt8) : List UInt8 := if f.length < 255 then UInt8.ofNat f.length :: f else 255 :: UInt8.ofNat (f.length / 256) :: UInt8.ofNat f.length :: f
def packB : List (List UInt8) → List UInt8
 | [] => []
 | f :: l => fieldB f ++ packB l
theorem packB_app : ∀ (a b : List (List UInt8)), packB (a ++ b) = packB a ++ packB b
 | [], b => rfl
 | f :: a, b => by simp only [List.cons_append, packB, packB_app a b, List.append_assoc]
theorem fieldB_short {f : List UInt8} (h : f.length < 255) : fieldB f = UInt8.ofNat f.length :: f := if_pos h
theorem fieldB_long {f : List UInt8} (h : ¬ f.length < 255) : fieldB f = 255 :: UInt8.ofNat (f.length / 256) :: UInt8.ofNat f.length :: f := if_neg h
theorem fieldB_len (f : List UInt8) : (fieldB f).length = f.length + if f.length < 255 then 1 else 3 := by
 unfold fieldB; split <;> simp
theorem fieldB_ne (f : List UInt8) : fieldB f ≠ [] := by unfold fieldB; split <;> simp
def headL (l : List UInt8) : Nat × Nat × Int :=
 if (l.getD 0 0).toNat < 255 then ((l.getD 0 0).toNat, 1, 0)
 else if l.length < 3 then (0, 0, 8)
 else if (l.getD 1 0).toNat * 256 + (l.getD 2 0).toNat < 255 then (0, 0, 7)
 else ((l.getD 1 0).toNat * 256 + (l.getD 2 0).toNat, 3, 0)
def errL (l : List UInt8) : Int := if (headL l).2.2 = 0 then if l.length < (headL l).2.1 + (headL l).1 then 8 else 0 else (headL l).2.2
def fldL (l : List UInt8) : List UInt8 := (l.drop (headL l).2.1).take (headL l).1
def rstL (l : List UInt8) : List UInt8 := l.drop ((headL l).2.1 + (headL l).1)
theorem headL_from {l : List UInt8} (h : (headL l).2.2 = 0) : 1 ≤ (headL l).2.1 := by
 unfold headL at *
 split
 · simp
 · rename_i h1
   rw [if_neg h1] at h
   split
   · rename_i h2; rw [if_pos h2] at h; simp at h
   · rename_i h2
     rw [if_neg h2] at h
     split
     · rename_i h3; rw [if_pos h3] at h; simp at h
     · simp
theorem errL_head {l : List UInt8} (h : errL l = 0) : (headL l).2.2 = 0 ∧ (headL l).2.1 + (headL l).1 ≤ l.length := by
 unfold errL at h
 split at h
 · rename_i h1
   split at h
   · cases h
   · exact ⟨h1, by omega⟩
 · rename_i h1; exact absurd h h1
theorem rstL_lt {l : List UInt8} (hl : l ≠ []) (h : errL l = 0) : (rstL l).length < l.length := by
 obtain ⟨h1, h2⟩ := errL_head h
 have := headL_from h1
 have := List.length_pos_iff.2 hl
 unfold rstL
 rw [List.length_drop]; omega
def unpackG (l : List UInt8) (out : List (List UInt8)) (most : Int) : List (List UInt8) × Int :=
 if hl : l = [] then (out, 0)
 else if h : errL l = 0 then
  if most ≤ out.length then ([], 4) else unpackG (rstL l) (out ++ [fldL l]) most
 else ([], errL l)
termination_by l.length
decreasing_by exact rstL_lt hl h
theorem unpackG_nil (out most) : unpackG [] out most = (out, 0) := by rw [unpackG]; simp
theorem unpackG_err {l out most} (hl : l ≠ []) (h : errL l ≠ 0) : unpackG l out most = ([], errL l) := by rw [unpackG, dif_neg hl, dif_neg h]
theorem unpackG_full {l out} {most : Int} (hl : l ≠ []) (h : errL l = 0) (hm : most ≤ out.length) : unpackG l out most = ([], 4) := by rw [unpackG, dif_neg hl, dif_pos h, if_pos hm]
theorem unpackG_go {l out} {most : Int} (hl : l ≠ []) (h : errL l = 0) (hm : ¬ most ≤ out.length) : unpackG l out most = unpackG (rstL l) (out ++ [fldL l]) most := by rw [unpackG, dif_neg hl, dif_pos h, if_neg hm]
theorem toNat_ofNat_lt {n : Nat} (h : n < 256) : (UInt8.ofNat n).toNat = n := by rw [UInt8.toNat_ofNat']; exact Nat.mod_eq_of_lt h
theorem head_field (f r : List UInt8) (hf : f.length ≤ 65535) : headL (fieldB f ++ r) = (f.length, (if f.length < 255 then 1 else 3), 0) := by
 unfold headL fieldB
 by_cases h : f.length < 255
 · simp only [if_pos h, List.cons_append, List.getD_cons_zero]
   rw [toNat_ofNat_lt (by omega), if_pos h]
 · simp only [if_neg h, List.cons_append, List.getD_cons_zero, List.getD_cons_succ, List.length_cons]
   rw [if_neg (by decide), if_neg (by omega), toNat_ofNat_lt (by omega), UInt8.toNat_ofNat']
   have : f.length / 256 * 256 + f.length % 2 ^ 8 = f.length := by omega
   rw [this, if_neg h]
theorem field_drop (f r : List UInt8) : (fieldB f ++ r).drop (if f.length < 255 then 1 else 3) = f ++ r := by
 unfold fieldB
 by_cases h : f.length < 255
 · simp [if_pos h]
 · simp [if_neg h]
theorem err_field (f r : List UInt8) (hf : f.length ≤ 65535) : errL (fieldB f ++ r) = 0 := by
 unfold errL
 rw [head_field f r hf]
 simp only [if_true]
 rw [if_neg]
 rw [List.length_append, fieldB_len]
 omega
theorem fld_field (f r : List UInt8) (hf : f.length ≤ 65535) : fldL (fieldB f ++ r) = f := by
 unfold fldL
 rw [head_field f r hf]
 simp only
 rw [field_drop, List.take_left]
theorem rst_field (f r : List UInt8) (hf : f.length ≤ 65535) : rstL (fieldB f ++ r) = r := by
 unfold rstL
 rw [head_field f r hf]
 simp only
 rw [← List.drop_drop, field_drop, List.drop_left]
theorem unpack_pack (r : List UInt8) : ∀ (l out : List (List UInt8)) (most : Int), (∀ f ∈ l, f.length ≤ 65535) → (out.length + l.length : Int) ≤ most → unpackG (packB l ++ r) out most = unpackG r (out ++ l) most
 | [], out, most, _, _ => by simp [packB]
 | f :: l, out, most, hl, hm => by
  simp only [packB, List.append_assoc]
  have hf := hl f List.mem_cons_self
  simp only [List.length_cons] at hm
  rw [unpackG_go (by simp [fieldB_ne]) (err_field f _ hf) (by omega), fld_field f _ hf, rst_field f _ hf]
  rw [unpack_pack r l (out ++ [f]) most (fun g hg => hl g (List.mem_cons_of_mem _ hg)) (by simp; omega)]
  simp
theorem unpack_all (l : List (List UInt8)) (most : Int) (hl : ∀ f ∈ l, f.length ≤ 65535) (hm : (l.length : Int) ≤ most) : unpackG (packB l) [] most = (l, 0) := by
 have := unpack_pack [] l [] most hl (by simpa using hm)
 rw [List.append_nil] at this
 rw [this, unpackG_nil]; simp
end Go.Proofs.Ytfkmlmckihmihaa.Fw
namespace Go.Proofs.Ytfkmlmckihmihaa.Fw
inductive RdR where
 | skip
 | err (e : Int)
 | val (x : Int) (rest : List UInt8)
end Go.Proofs.Ytfkmlmckihmihaa.Fw
namespace Go.Proofs.Ytfkmlmckihmihaa.Fw
open Go.RowKit Go.Proofs
theorem wrap_u8_nat (n : Nat) : IntKind.u8.wrap (n : Int) = ((UInt8.ofNat n).toNat : Int) := by
 rw [UInt8.toNat_ofNat']
 simp [IntKind.wrap, IntKind.signed, IntKind.bits]
theorem ofInt64 (a : Nat) (h : a < 18446744073709551616) : (BitVec.ofInt 64 (a : Int)).toNat = a := by
 rw [BitVec.ofInt_natCast, BitVec.toNat_ofNat]; exact Nat.mod_eq_of_lt (by omega)
theorem bytesE_all (l : List UInt8) : ∀ c ∈ bytesE l, c.all PV.flat = true := by
 intro c hc
 obtain ⟨x, _, rfl⟩ := List.mem_map.1 hc
 rfl
end Go.Proofs.Ytfkmlmckihmihaa.Fw
namespace Go.Proofs.Ytfkmlmckihmihaa.Fw
open Go.RowKit Go.Proofs
def BsEq (es : List (List PV)) (L : List (List UInt8)) : Prop := es.length = L.length ∧ ∀ k, k < L.length → ∃ f z, es[k]? = some [.sl f z (bytesE (L.getD k []))] ∧ (L.getD k [] = [] ∨ z = 1)
def bE (b : List UInt8) : List PV := [.sl false 1 (bytesE b)]
theorem bsEq_map (L : List (List UInt8)) : BsEq (L.map bE) L := ⟨by simp, fun k hk => ⟨false, 1, by simp [bE, hk], .inr rfl⟩⟩
theorem ld_sl {f z es} (K : KK) : LoadK (some [.sl f z es]) 0 1 false K = K (.pv (.sl f z es)) [] := by
 simp only [LoadK, ldX, eq_iff_iff]
 exact ⟨fun h => h.2.2, fun h => ⟨by simp, .inr trivial, h⟩⟩
theorem nilOr {b : List UInt8} {z : Nat} (h : b = [] ∨ z = 1) : (bytesE b = [] ∨ z = 1) = True := eq_true (h.imp (fun e => by rw [e]; rfl) id)
theorem packB_take {L : List (List UInt8)} {k : Nat} (h : k < L.length) : packB (L.take (k + 1)) = packB (L.take k) ++ fieldB (L.getD k []) := by
 rw [List.take_add_one, List.getElem?_eq_getElem h, Option.toList_some, packB_app, List.getD_eq_getElem?_getD, List.getElem?_eq_getElem h]
 simp [packB]
theorem shl8_orI (n c : Nat) (hn : n < 65536) (hc : c < 256) : bits .or .i64 ((n : Int) * 256) (c : Int) = ((n * 256 + c : Nat) : Int) := by
 have h : n * 256 ||| c < 2 ^ 32 := Nat.or_lt_two_pow (by omega) (by omega)
 rw [show (n : Int) * 256 = ((256 * n : Nat) : Int) from by omega]
 show IntKind.i64.wrap ((BitVec.ofInt 64 ((256 * n : Nat) : Int) ||| BitVec.ofInt 64 (c : Int)).toNat : Int) = _
 rw [BitVec.toNat_or, ofInt64 _ (by omega), ofInt64 c (by omega)]
 have := Nat.two_pow_add_eq_or_of_lt (i := 8) (b := c) (by omega) n
 rw [show (2 : Nat) ^ 8 = 256 from rfl] at this
 rw [← this, wrap_i64 (by omega)]; omega
theorem okCHead {x : SV} {f : Bool} {l : List UInt8} {h d} (hx : lents h [x] = [.pv (.sl f 1 (bytesE l))]) (hl : lendable [x] = true) (hne : l ≠ []) (hn : l.length ≤ 400000) :
 FunOk Try.prog 53 [x] h d (.tup [.pv (.i .i64 (headL l).1), .pv (.i .i64 (headL l).2.1), .pv (.i .i64 (headL l).2.2)]) [] := by
 refine fun_scalar mixed fn53 (by simp) hl rfl fun F => ?_
 rw [hx]
 have hpos : 0 < l.length := List.length_pos_iff.2 hne
 by_cases h1 : (l.getD 0 0).toNat < 255
 · have e : headL l = ((l.getD 0 0).toNat, 1, 0) := by unfold headL; rw [if_pos h1]
   have h1' : (((l.getD 0 0).toNat : Nat) : Int) < 255 := by omega
   have e2 : IntKind.i64.wrap (((l.getD 0 0).toNat : Nat) : Int) = ((l.getD 0 0).toNat : Int) := wrap_i64 (by omega)
   (try simp only [bK1, bK2, bK3, bK4, bK5, bK6, bK7, bK8]); simp (maxSteps := 10000000) (disch := omega) only [ir53, load_byte_e, h1', e, e2, go_sem, ↓reduceIte, Nat.reduceEqDiff, Nat.reduceSub, Nat.reduceLeDiff, Nat.reduceAdd, Int.reduceEq, Int.reduceLT, Int.reduceLE]
   rfl
 · have h1' : ¬ (((l.getD 0 0).toNat : Nat) : Int) < 255 := by omega
   by_cases h2 : l.length < 3
   · have e : headL l = (0, 0, 8) := by unfold headL; rw [if_neg h1, if_pos h2]
     (try simp only [bK1, bK2, bK3, bK4, bK5, bK6, bK7, bK8]); simp (maxSteps := 10000000) (disch := omega) only [ir53, load_byte_e, h1', e, go_sem, ↓reduceIte, Nat.reduceEqDiff, Nat.reduceSub, Nat.reduceLeDiff, Nat.reduceAdd, Int.reduceEq, Int.reduceLT, Int.reduceLE]
   · have t1 : Int.toNat 1 = 1 := rfl
     have t2 : Int.toNat 2 = 2 := rfl
     have b1 := (l.getD 1 0).toNat_lt
     have b2 := (l.getD 2 0).toNat_lt
     have w1 : IntKind.i64.wrap (((l.getD 1 0).toNat : Nat) : Int) = ((l.getD 1 0).toNat : Int) := wrap_i64 (by omega)
     have w2 : IntKind.i64.wrap (((l.getD 2 0).toNat : Nat) : Int) = ((l.getD 2 0).toNat : Int) := wrap_i64 (by omega)
     have e6 : ((2 : Int) ^ min (Int.toNat 8) 64) = 256 := rfl
     have w3 : IntKind.i64.wrap (((l.getD 1 0).toNat : Int) * 256) = ((l.getD 1 0).toNat : Int) * 256 := wrap_i64 (by omega)
     have hor : bits .or .i64 (((l.getD 1 0).toNat : Int) * 256) ((l.getD 2 0).toNat : Int) = (((l.getD 1 0).toNat * 256 + (l.getD 2 0).toNat : Nat) : Int) := shl8_orI _ _ (by omega) (by omega)
     by_cases h3 : (l.getD 1 0).toNat * 256 + (l.getD 2 0).toNat < 255
     · have e : headL l = (0, 0, 7) := by unfold headL; rw [if_neg h1, if_neg h2, if_pos h3]
       have h3' : (((l.getD 1 0).toNat * 256 + (l.getD 2 0).toNat : Nat) : Int) < 255 := by omega
       (try simp only [bK1, bK2, bK3, bK4, bK5, bK6, bK7, bK8]); simp (maxSteps := 10000000) (disch := omega) only [ir53, load_byte_e, h1', e, t1, t2, w1, w2, e6, w3, hor, h3', go_sem, ↓reduceIte, Nat.reduceEqDiff, Nat.reduceSub, Nat.reduceLeDiff, Nat.reduceAdd, Int.reduceEq, Int.reduceLT, Int.reduceLE]
     · have e : headL l = ((l.getD 1 0).toNat * 256 + (l.getD 2 0).toNat, 3, 0) := by unfold headL; rw [if_neg h1, if_neg h2, if_neg h3]
       have h3' : ¬ (((l.getD 1 0).toNat * 256 + (l.getD 2 0).toNat : Nat) : Int) < 255 := by omega
       (try simp only [bK1, bK2, bK3, bK4, bK5, bK6, bK7, bK8]); simp (maxSteps := 10000000) (disch := omega) only [ir53, load_byte_e, h1', e, t1, t2, w1, w2, e6, w3, hor, h3', go_sem, ↓reduceIte, Nat.reduceEqDiff, Nat.reduceSub, Nat.reduceLeDiff, Nat.reduceAdd, Int.reduceEq, Int.reduceLT, Int.reduceLE]
       rfl
theorem okFields {f : Bool} {z : Nat} {l : List UInt8} {h d} (hz : l = [] ∨ z = 1) (hn : l.length ≤ 400000) :
 FunOk Try.prog 43 [.pv (.sl f z (bytesE l))] h d (.fn (.func 52) [.pi 1 [[.sl false 1 (bytesE l)]] 0 0]) [] := by
 refine fun_pureW mixed fn43 (by simp) rfl rfl fun F => ?_
 have hz' := nilOr hz
 (try simp only [bK1, bK2, bK3, bK4, bK5, bK6, bK7, bK8]); simp (maxSteps := 10000000) (disch := omega) only [ir43, hz', bytesE_length, go_sem, ↓reduceIte, Nat.reduceEqDiff, Nat.reduceSub, Nat.reduceLeDiff, Nat.reduceAdd, Int.reduceEq, Int.reduceLT, Int.reduceLE]
 refine ⟨_, wk_frz 6 rfl (wk_frzv 3 (x := .pv (.sl false 1 (bytesE l))) (cs := [.sl false 1 (bytesE l)]) rfl rfl (.same _)), ?_⟩
 (try simp only [bK1, bK2, bK3, bK4, bK5, bK6, bK7, bK8]); simp (maxSteps := 10000000) (disch := omega) only [go_sem, ↓reduceIte, Nat.reduceEqDiff, Nat.reduceSub, Nat.reduceLeDiff, Nat.reduceAdd, Int.reduceEq, Int.reduceLT, Int.reduceLE]
end Go.Proofs.Ytfkmlmckihmihaa.Fw
namespace Go.Proofs.Ytfkmlmckihmihaa.Fw
open Go.RowKit Go.Proofs
def stFl (l : Nat) (most : Int) (r : List UInt8) (o : List (List UInt8)) : FS := mk [(3, .pv (.sl false 1 (bytesE r))), (0, .fn (.yield l) []), (1000000, .pv (.i .i64 0)), (1000004, .p 3 0), (1000005, .p 4 0), (1000006, .p 5 0), (1000007, .p 6 0)]
 [(3, some (.var (.pv (.i .i64 most)))), (4, some (.var (.pv (.sl true 0 [])))), (5, some (.var (.pv (.i .i64 0)))), (6, some (.var (.os 50))), (50, some (.row 1 (o.map bE)))]
theorem headL_le (l : List UInt8) : (headL l).1 < 65536 ∧ (headL l).2.1 ≤ 3 ∧ 0 ≤ (headL l).2.2 ∧ (headL l).2.2 ≤ 8 := by
 have b0 := (l.getD 0 0).toNat_lt
 have b1 := (l.getD 1 0).toNat_lt
 have b2 := (l.getD 2 0).toNat_lt
 unfold headL
 split
 · simp only; omega
 · split
   · simp
   · split
     · simp
     · simp only; omega
theorem ps_big : ∀ p ∈ [11, 12], p < big := by
 intro p hp
 have : big = 1000000 := rfl
 simp at hp; omega
set_option maxHeartbeats 4000000 in
theorem okUnpack {f : Bool} {z : Nat} {b : List UInt8} {most : Int} {h d} (hz : b = [] ∨ z = 1) (hn : b.length ≤ 300000) :
 FunOk Try.prog 27 [.pv (.sl f z (bytesE b)), .pv (.i .i64 most)] h d (.tup [.os d, .pv (.i .i64 (unpackG b [] most).2)]) [.new d (.row 1 ((unpackG b [] most).1.map bE))] := by
 refine fun_row2N mixed fn27 (by simp) rfl (.inl rfl) rfl fun F => ?_
 (try simp only [bK1, bK2, bK3, bK4, bK5, bK6, bK7, bK8]); simp (maxSteps := 10000000) (disch := omega) only [ir27, go_sem, ↓reduceIte, Nat.reduceEqDiff, Nat.reduceSub, Nat.reduceLeDiff, Nat.reduceAdd, Int.reduceEq, Int.reduceLT, Int.reduceLE]
 refine call_with (okFields hz (by omega)) ?_
 (try simp only [bK1, bK2, bK3, bK4, bK5, bK6, bK7, bK8]); simp (maxSteps := 10000000) (disch := omega) only [go_sem, ↓reduceIte, Nat.reduceEqDiff, Nat.reduceSub, Nat.reduceLeDiff, Nat.reduceAdd, Int.reduceEq, Int.reduceLT, Int.reduceLE]
 refine rng_ok mixed fn52 (by simp) fun l XI hc => ?_
 rw [enter_mk _ _ _ (by show 2 ≤ 1000000; omega)]
 (try simp only [bK1, bK2, bK3, bK4, bK5, bK6, bK7, bK8]); simp (maxSteps := 10000000) (disch := omega) only [ir52, ld_sl, List.getElem?_cons_zero, go_sem, ↓reduceIte, Nat.reduceEqDiff, Nat.reduceSub, Nat.reduceLeDiff, Nat.reduceAdd, Int.reduceEq, Int.reduceLT, Int.reduceLE]
 refine loop_ok mixed (fun x : List UInt8 × List (List UInt8) => stFl l most x.1 x.2) (fun x => unpackG b [] most = unpackG x.1 x.2 most ∧ x.2.length + x.1.length ≤ 300000) (fun x => x.1.length) (b, []) ⟨rfl, by simpa using hn⟩ (wk_nilv 6 50 1 rfl (by decide) (by decide) (weak_mk ?_ ?_)) fun x hx => ?_
 · (try simp only [bK1, bK2, bK3, bK4, bK5, bK6, bK7, bK8]); simp (maxSteps := 10000000) (disch := omega) only [go_sem, ↓reduceIte, Nat.reduceEqDiff, Nat.reduceSub, Nat.reduceLeDiff, Nat.reduceAdd, Int.reduceEq, Int.reduceLT, Int.reduceLE]
 · (try simp only [bK1, bK2, bK3, bK4, bK5, bK6, bK7, bK8]); simp (maxSteps := 10000000) (disch := omega) only [go_sem, ↓reduceIte, Nat.reduceEqDiff, Nat.reduceSub, Nat.reduceLeDiff, Nat.reduceAdd, Int.reduceEq, Int.reduceLT, Int.reduceLE]
   rfl
 obtain ⟨r, o⟩ := x
 obtain ⟨hu, hlen⟩ := hx
 dsimp only at hu hlen ⊢
 rw [hu]
 by_cases hr : r = []
 · subst hr
   rw [unpackG_nil]
   (try simp only [bK1, bK2, bK3, bK4, bK5, bK6, bK7, bK8]); simp (maxSteps := 10000000) (disch := omega) only [stFl, bytesE_length, List.length_nil, go_sem, ↓reduceIte, Nat.reduceEqDiff, Nat.reduceSub, Nat.reduceLeDiff, Nat.reduceAdd, Int.reduceEq, Int.reduceLT, Int.reduceLE]
 have hrp : 0 < r.length := List.length_pos_iff.2 hr
 have hle := headL_le r
 have her : errL r = if (headL r).2.2 = 0 then if r.length < (headL r).2.1 + (headL r).1 then 8 else 0 else (headL r).2.2 := rfl
 have hfl : fldL r = (r.drop (headL r).2.1).take (headL r).1 := rfl
 have hrs : rstL r = r.drop ((headL r).2.1 + (headL r).1) := rfl
 (try simp only [bK1, bK2, bK3, bK4, bK5, bK6, bK7, bK8]); simp (maxSteps := 10000000) (disch := omega) only [stFl, bytesE_length, go_sem, ↓reduceIte, Nat.reduceEqDiff, Nat.reduceSub, Nat.reduceLeDiff, Nat.reduceAdd, Int.reduceEq, Int.reduceLT, Int.reduceLE]
 refine call_with (okCHead (f := false) (l := r) rfl rfl hr (by omega)) ?_
 have hlt := fun h => rstL_lt hr h
 rcases hh : headL r with ⟨n, fr, e⟩
 rw [hh] at hle her hfl hrs
 simp only at hle her hfl hrs
 have bad : errL r ≠ 0 → unpackG r o most = ([], errL r) := fun h => unpackG_err hr h
 by_cases he0 : e = 0
 · subst he0
   rw [if_pos rfl] at her
   by_cases hcut : r.length < fr + n
   · rw [if_pos hcut] at her
     rw [bad (by rw [her]; decide), her]
     (try simp only [bK1, bK2, bK3, bK4, bK5, bK6, bK7, bK8]); simp (maxSteps := 10000000) (disch := omega) only [bytesE_length, go_sem, ↓reduceIte, Nat.reduceEqDiff, Nat.reduceSub, Nat.reduceLeDiff, Nat.reduceAdd, Int.reduceEq, Int.reduceLT, Int.reduceLE]
     refine yld_ok mixed hc ?_ rfl fun XA XB => ?_
     · (try simp only [bK1, bK2, bK3, bK4, bK5, bK6, bK7, bK8]); simp (maxSteps := 10000000) (disch := omega) only [go_sem, ↓reduceIte, Nat.reduceEqDiff, Nat.reduceSub, Nat.reduceLeDiff, Nat.reduceAdd, Int.reduceEq, Int.reduceLT, Int.reduceLE]
     rw [round_mk _ _ _ _ ps_big]
     (try simp only [bK1, bK2, bK3, bK4, bK5, bK6, bK7, bK8]); simp (maxSteps := 10000000) (disch := omega) only [go_sem, ↓reduceIte, Nat.reduceEqDiff, Nat.reduceSub, Nat.reduceLeDiff, Nat.reduceAdd, Int.reduceEq, Int.reduceLT, Int.reduceLE]
     exact .inr ⟨0, rfl, rfl, by decide⟩
   · rw [if_neg hcut] at her
     have hgo := hlt her
     have hfe : (r.take (fr + n)).drop fr = fldL r := by rw [hfl, List.drop_take]; congr 1; omega
     have e3 : ((fr : Int) + (n : Int)).toNat = fr + n := by omega
     have hfll : (fldL r).length ≤ 70000 := by rw [hfl, List.length_take]; omega
     (try simp only [bK1, bK2, bK3, bK4, bK5, bK6, bK7, bK8]); simp (maxSteps := 10000000) (disch := omega) only [bytesE_length, e3, hfe, go_sem, ↓reduceIte, Nat.reduceEqDiff, Nat.reduceSub, Nat.reduceLeDiff, Nat.reduceAdd, Int.reduceEq, Int.reduceLT, Int.reduceLE]
     refine yld_ok mixed hc ?_ rfl fun XA XB => ?_
     · (try simp only [bK1, bK2, bK3, bK4, bK5, bK6, bK7, bK8]); simp (maxSteps := 10000000) (disch := omega) only [go_sem, ↓reduceIte, Nat.reduceEqDiff, Nat.reduceSub, Nat.reduceLeDiff, Nat.reduceAdd, Int.reduceEq, Int.reduceLT, Int.reduceLE]
     rw [round_mk _ _ _ _ ps_big]
     by_cases hfull : most ≤ o.length
     · rw [unpackG_full hr her hfull]
       (try simp only [bK1, bK2, bK3, bK4, bK5, bK6, bK7, bK8]); simp (maxSteps := 10000000) (disch := omega) only [List.length_map, go_sem, ↓reduceIte, Nat.reduceEqDiff, Nat.reduceSub, Nat.reduceLeDiff, Nat.reduceAdd, Int.reduceEq, Int.reduceLT, Int.reduceLE]
       exact .inr ⟨0, rfl, rfl, by decide⟩
     · rw [unpackG_go hr her hfull]
       (try simp only [bK1, bK2, bK3, bK4, bK5, bK6, bK7, bK8]); simp (maxSteps := 10000000) (disch := omega) only [List.length_map, go_sem, ↓reduceIte, Nat.reduceEqDiff, Nat.reduceSub, Nat.reduceLeDiff, Nat.reduceAdd, Int.reduceEq, Int.reduceLT, Int.reduceLE]
       refine ⟨(rstL r, o ++ [fldL r]), ⟨rfl, by simp only [List.length_append, List.length_singleton]; omega⟩, hgo, wk_ren 23 50 (by decide) rfl (weak_mk ?_ ?_)⟩
       · (try simp only [bK1, bK2, bK3, bK4, bK5, bK6, bK7, bK8]); simp (maxSteps := 10000000) (disch := omega) only [e3, ← hrs, go_sem, ↓reduceIte, Nat.reduceEqDiff, Nat.reduceSub, Nat.reduceLeDiff, Nat.reduceAdd, Int.reduceEq, Int.reduceLT, Int.reduceLE]
       · (try simp only [bK1, bK2, bK3, bK4, bK5, bK6, bK7, bK8]); simp (maxSteps := 10000000) (disch := omega) only [List.map_append, List.map_cons, List.map_nil, bE, go_sem, ↓reduceIte, Nat.reduceEqDiff, Nat.reduceSub, Nat.reduceLeDiff, Nat.reduceAdd, Int.reduceEq, Int.reduceLT, Int.reduceLE]
 · rw [if_neg he0] at her
   rw [bad (by rw [her]; exact he0), her]
   (try simp only [bK1, bK2, bK3, bK4, bK5, bK6, bK7, bK8]); simp (maxSteps := 10000000) (disch := omega) only [bytesE_length, go_sem, ↓reduceIte, Nat.reduceEqDiff, Nat.reduceSub, Nat.reduceLeDiff, Nat.reduceAdd, Int.reduceEq, Int.reduceLT, Int.reduceLE]
   refine yld_ok mixed hc ?_ rfl fun XA XB => ?_
   · (try simp only [bK1, bK2, bK3, bK4, bK5, bK6, bK7, bK8]); simp (maxSteps := 10000000) (disch := omega) only [go_sem, ↓reduceIte, Nat.reduceEqDiff, Nat.reduceSub, Nat.reduceLeDiff, Nat.reduceAdd, Int.reduceEq, Int.reduceLT, Int.reduceLE]
   rw [round_mk _ _ _ _ ps_big]
   (try simp only [bK1, bK2, bK3, bK4, bK5, bK6, bK7, bK8]); simp (maxSteps := 10000000) (disch := omega) only [go_sem, ↓reduceIte, Nat.reduceEqDiff, Nat.reduceSub, Nat.reduceLeDiff, Nat.reduceAdd, Int.reduceEq, Int.reduceLT, Int.reduceLE]
   exact .inr ⟨0, rfl, rfl, by decide⟩
end Go.Proofs.Ytfkmlmckihmihaa.Fw
namespace Go.Proofs.Ytfkmlmckihmihaa.Fw
open Go.RowKit Go.Proofs
theorem wrap_u8_shr (n : Nat) : IntKind.u8.wrap (((n / 256 : Nat) : Int)) = (((UInt8.ofNat (n / 256)).toNat : Nat) : Int) := wrap_u8_nat _
def stPack (f : Bool) (z : Nat) (es : List (List PV)) (L : List (List UInt8)) (k : Nat) : FS := mk [(11, .pv (.i .i64 k)), (10, .pv (.i .i64 L.length)), (9, .pv (.sl f z es)), (4, .os 50)] [(50, some (.row 1 (bytesE (packB (L.take k)))))]
def packLen : List (List UInt8) → Nat
 | [] => 0
 | f :: l => f.length + 3 + packLen l
theorem packB_len : ∀ L : List (List UInt8), (packB L).length ≤ packLen L
 | [] => Nat.le_refl _
 | f :: l => by
  have := packB_len l
  simp only [packB, packLen, List.length_append, fieldB_len]
  split <;> omega
theorem packLen_take : ∀ (L : List (List UInt8)) (k : Nat), packLen (L.take k) ≤ packLen L
 | [], k => by simp [packLen]
 | f :: l, 0 => by simp [packLen]
 | f :: l, k + 1 => by
  have := packLen_take l k
  simp only [List.take_succ_cons, packLen]; omega
theorem packLen_mem : ∀ {L : List (List UInt8)} {k : Nat}, k < L.length → (L.getD k []).length + 3 ≤ packLen L
 | f :: l, 0, _ => by simp only [packLen, List.getD_cons_zero]; omega
 | f :: l, k + 1, h => by
  have := packLen_mem (L := l) (k := k) (by simpa using h)
  simp only [packLen, List.getD_cons_succ]; omega
 | [], k, h => by simp at h
set_option maxHeartbeats 4000000 in
theorem okPack {x : SV} {f : Bool} {z : Nat} {es : List (List PV)} {L : List (List UInt8)} {h d} (hx : lents h [x] = [.pv (.sl f z es)]) (hl : lendable [x] = true) (he : BsEq es L) (hz : L = [] ∨ z = 1) (hb : packLen L ≤ 300000) (hall : ∀ b ∈ L, b.length ≤ 65535) :
 FunOk Try.prog 24 [x] h d (.tup [.os d, .pv (.i .i64 0)]) [.new d (.row 1 (bytesE (packB L)))] := by
 refine fun_row2 mixed fn24 (by simp) hl (.inr (bytesE_all _)) rfl fun F => ?_
 rw [hx]
 have hel := he.1
 have hLn : L.length ≤ 300000 := by
  have : ∀ L : List (List UInt8), L.length ≤ packLen L := fun L => by
   induction L with
   | nil => simp
   | cons f l ih => simp only [packLen, List.length_cons]; omega
  exact Nat.le_trans (this L) hb
 (try simp only [bK1, bK2, bK3, bK4, bK5, bK6, bK7, bK8]); simp (maxSteps := 10000000) (disch := omega) only [ir24, hel, go_sem, ↓reduceIte, Nat.reduceEqDiff, Nat.reduceSub, Nat.reduceLeDiff, Nat.reduceAdd, Int.reduceEq, Int.reduceLT, Int.reduceLE]
 refine loop_ok mixed (stPack f z es L) (fun k => k ≤ L.length) (fun k => L.length - k) 0 (by simp) (wk_ren 8 50 (by decide) rfl (weak_mk ?_ ?_)) fun k hk => ?_
 · (try simp only [bK1, bK2, bK3, bK4, bK5, bK6, bK7, bK8]); simp (maxSteps := 10000000) (disch := omega) only [go_sem, ↓reduceIte, Nat.reduceEqDiff, Nat.reduceSub, Nat.reduceLeDiff, Nat.reduceAdd, Int.reduceEq, Int.reduceLT, Int.reduceLE]
 · (try simp only [bK1, bK2, bK3, bK4, bK5, bK6, bK7, bK8]); simp (maxSteps := 10000000) (disch := omega) only [go_sem, ↓reduceIte, Nat.reduceEqDiff, Nat.reduceSub, Nat.reduceLeDiff, Nat.reduceAdd, Int.reduceEq, Int.reduceLT, Int.reduceLE]
   rfl
 by_cases hlt : k < L.length
 · have hz1 : z = 1 := hz.resolve_left fun e => by subst e; simp at hlt
   subst hz1
   obtain ⟨f', z', hek, hz'⟩ := he.2 k hlt
   have hpt := packB_take hlt
   have hbk : (L.getD k []).length ≤ 65535 := by
    rw [List.getD_eq_getElem?_getD, List.getElem?_eq_getElem hlt]
    exact hall _ (List.getElem_mem hlt)
   have hpl := packLen_mem hlt
   have hpk := Nat.le_trans (packB_len (L.take k)) (packLen_take L k)
   generalize L.getD k [] = b at *
   have hzz := nilOr hz'
   have hwn : IntKind.u8.wrap (b.length : Int) = (((UInt8.ofNat b.length).toNat : Nat) : Int) := wrap_u8_nat _
   by_cases hs : b.length < 255
   · rw [fieldB_short hs] at hpt
     (try simp only [bK1, bK2, bK3, bK4, bK5, bK6, bK7, bK8]); simp (maxSteps := 10000000) (disch := omega) only [stPack, hel, hek, ld_sl, bytesE_length, hzz, hwn, List.length_append, go_sem, ↓reduceIte, Nat.reduceEqDiff, Nat.reduceSub, Nat.reduceLeDiff, Nat.reduceAdd, Int.reduceEq, Int.reduceLT, Int.reduceLE]
     refine ⟨k + 1, by omega, by omega, wk_ren 38 50 (by decide) rfl (weak_mk ?_ ?_)⟩
     · (try simp only [bK1, bK2, bK3, bK4, bK5, bK6, bK7, bK8]); simp (maxSteps := 10000000) (disch := omega) only [go_sem, ↓reduceIte, Nat.reduceEqDiff, Nat.reduceSub, Nat.reduceLeDiff, Nat.reduceAdd, Int.reduceEq, Int.reduceLT, Int.reduceLE]
     · (try simp only [bK1, bK2, bK3, bK4, bK5, bK6, bK7, bK8]); simp (maxSteps := 10000000) (disch := omega) only [hpt, bytesE, List.map_append, List.map_cons, List.map_nil, go_sem, ↓reduceIte, Nat.reduceEqDiff, Nat.reduceSub, Nat.reduceLeDiff, Nat.reduceAdd, Int.reduceEq, Int.reduceLT, Int.reduceLE]
       simp
   · rw [fieldB_long hs] at hpt
     have e8 : ((2 : Int) ^ min (Int.toNat 8) 64) = 256 := rfl
     have hsh : ((b.length : Int).fdiv 256) = ((b.length / 256 : Nat) : Int) := by
      rw [Int.fdiv_eq_ediv_of_nonneg _ (by omega)]; omega
     have hwh := wrap_u8_shr b.length
     (try simp only [bK1, bK2, bK3, bK4, bK5, bK6, bK7, bK8]); simp (maxSteps := 10000000) (disch := omega) only [stPack, hel, hek, ld_sl, bytesE_length, hzz, e8, hsh, hwn, hwh, List.length_append, go_sem, ↓reduceIte, Nat.reduceEqDiff, Nat.reduceSub, Nat.reduceLeDiff, Nat.reduceAdd, Int.reduceEq, Int.reduceLT, Int.reduceLE]
     refine ⟨k + 1, by omega, by omega, wk_ren 38 50 (by decide) rfl (weak_mk ?_ ?_)⟩
     · (try simp only [bK1, bK2, bK3, bK4, bK5, bK6, bK7, bK8]); simp (maxSteps := 10000000) (disch := omega) only [go_sem, ↓reduceIte, Nat.reduceEqDiff, Nat.reduceSub, Nat.reduceLeDiff, Nat.reduceAdd, Int.reduceEq, Int.reduceLT, Int.reduceLE]
     · (try simp only [bK1, bK2, bK3, bK4, bK5, bK6, bK7, bK8]); simp (maxSteps := 10000000) (disch := omega) only [hpt, bytesE, List.map_append, List.map_cons, List.map_nil, go_sem, ↓reduceIte, Nat.reduceEqDiff, Nat.reduceSub, Nat.reduceLeDiff, Nat.reduceAdd, Int.reduceEq, Int.reduceLT, Int.reduceLE]
       simp
 · obtain rfl : k = L.length := by omega
   have e := List.take_length (l := L)
   (try simp only [bK1, bK2, bK3, bK4, bK5, bK6, bK7, bK8]); simp (maxSteps := 10000000) (disch := omega) only [stPack, e, go_sem, ↓reduceIte, Nat.reduceEqDiff, Nat.reduceSub, Nat.reduceLeDiff, Nat.reduceAdd, Int.reduceEq, Int.reduceLT, Int.reduceLE]
end Go.Proofs.Ytfkmlmckihmihaa.Fw
namespace Go.Proofs.Ytfkmlmckihmihaa.Fw
open Go.RowKit Go.Proofs
def fewT : List (List UInt8) → Nat
 | [] => 0
 | f :: l => min f.length 3000 + 1 + fewT l
def fewB (L : List (List UInt8)) : Bool := decide (fewT L ≤ 3000)
theorem fewT_take : ∀ {L : List (List UInt8)} {k : Nat}, k < L.length → fewT (L.take (k + 1)) = fewT (L.take k) + (min (L.getD k []).length 3000 + 1)
 | f :: l, 0, _ => by simp [fewT]
 | f :: l, k + 1, h => by
  have := fewT_take (L := l) (k := k) (by simpa using h)
  simp only [List.take_succ_cons, fewT, List.getD_cons_succ] at this ⊢
  omega
 | [], k, h => by simp at h
theorem fewT_mono : ∀ (L : List (List UInt8)) (k : Nat), fewT (L.take k) ≤ fewT L
 | [], k => by simp [fewT]
 | f :: l, 0 => by simp [fewT]
 | f :: l, k + 1 => by
  have := fewT_mono l k
  simp only [List.take_succ_cons, fewT]; omega
theorem few_len : ∀ {L : List (List UInt8)}, L.length ≤ fewT L
 | [] => Nat.le_refl _
 | f :: l => by have := few_len (L := l); simp only [fewT, List.length_cons]; omega
theorem few_all : ∀ {L : List (List UInt8)}, fewT L ≤ 3000 → ∀ b ∈ L, b.length ≤ 2999
 | [], _ => by simp
 | f :: l, h => by
  simp only [fewT] at h
  intro b hb
  rcases List.mem_cons.1 hb with rfl | hb
  · omega
  · exact few_all (L := l) (by omega) b hb
theorem few_pack : ∀ {L : List (List UInt8)}, fewT L ≤ 3000 → packLen L ≤ 3 * fewT L
 | [], _ => by simp [packLen]
 | f :: l, h => by
  simp only [fewT] at h
  have := few_pack (L := l) (by omega)
  simp only [packLen, fewT]; omega
def stFew (f : Bool) (z : Nat) (es : List (List PV)) (L : List (List UInt8)) (k : Nat) : FS := mk [(8, .pv (.i .i64 k)), (7, .pv (.i .i64 L.length)), (6, .pv (.sl f z es)), (3, .pv (.i .i64 (3000 - (fewT (L.take k) : Int))))] []
set_option maxHeartbeats 1000000 in
theorem okFew {x : SV} {f : Bool} {z : Nat} {es : List (List PV)} {L : List (List UInt8)} {h d} (hx : lents h [x] = [.pv (.sl f z es)]) (hl : lendable [x] = true) (he : BsEq es L) (hz : L = [] ∨ z = 1) (hLm : L.length ≤ maxLen) (hbm : ∀ b ∈ L, b.length ≤ maxLen) :
 FunOk Try.prog 23 [x] h d (.pv (.b (fewB L))) [] := by
 refine fun_scalar mixed fn23 (by simp) hl rfl fun F => ?_
 rw [hx]
 have hel := he.1
 (try simp only [bK1, bK2, bK3, bK4, bK5, bK6, bK7, bK8]); simp (maxSteps := 10000000) (disch := omega) only [ir23, hel, go_sem, ↓reduceIte, Nat.reduceEqDiff, Nat.reduceSub, Nat.reduceLeDiff, Nat.reduceAdd, Int.reduceEq, Int.reduceLT, Int.reduceLE]
 refine loop_ok mixed (stFew f z es L) (fun k => k ≤ L.length ∧ fewT (L.take k) ≤ 3000) (fun k => L.length - k) 0 (by simp [fewT]) (weak_mk ?_ ?_) fun k hk => ?_
 · (try simp only [bK1, bK2, bK3, bK4, bK5, bK6, bK7, bK8]); simp (maxSteps := 10000000) (disch := omega) only [List.take_zero, fewT, go_sem, ↓reduceIte, Nat.reduceEqDiff, Nat.reduceSub, Nat.reduceLeDiff, Nat.reduceAdd, Int.reduceEq, Int.reduceLT, Int.reduceLE]
 · (try simp only [bK1, bK2, bK3, bK4, bK5, bK6, bK7, bK8]); simp (maxSteps := 10000000) (disch := omega) only [go_sem, ↓reduceIte, Nat.reduceEqDiff, Nat.reduceSub, Nat.reduceLeDiff, Nat.reduceAdd, Int.reduceEq, Int.reduceLT, Int.reduceLE]
 obtain ⟨hk, hfk⟩ := hk
 by_cases hlt : k < L.length
 · have hz1 : z = 1 := hz.resolve_left fun e => by subst e; simp at hlt
   subst hz1
   obtain ⟨f', z', hek, hz'⟩ := he.2 k hlt
   have hft := fewT_take hlt
   have hmo := fewT_mono L (k + 1)
   have hbk : (L.getD k []).length ≤ maxLen := by
    rw [List.getD_eq_getElem?_getD, List.getElem?_eq_getElem hlt]
    exact hbm _ (List.getElem_mem hlt)
   generalize L.getD k [] = b at *
   have hmn : min (b.length : Int) 3000 = ((min b.length 3000 : Nat) : Int) := by omega
   unfold maxLen at hbk hLm
   have hk1 := few_len (L := L.take k)
   have hk2 : (L.take k).length = k := by simp; omega
   by_cases hov : fewT (L.take (k + 1)) ≤ 3000
   · have e : (3000 : Int) - (fewT (L.take k) : Int) - (((min b.length 3000 : Nat) : Int) + 1) = 3000 - (fewT (L.take (k + 1)) : Int) := by omega
     (try simp only [bK1, bK2, bK3, bK4, bK5, bK6, bK7, bK8]); simp (maxSteps := 10000000) (disch := omega) only [stFew, hel, hek, ld_sl, bytesE_length, hmn, e, go_sem, ↓reduceIte, Nat.reduceEqDiff, Nat.reduceSub, Nat.reduceLeDiff, Nat.reduceAdd, Int.reduceEq, Int.reduceLT, Int.reduceLE]
     refine loop_next (k + 1) _ _ rfl ⟨by omega, hov⟩ (by omega) ?_ ?_
     · (try simp only [bK1, bK2, bK3, bK4, bK5, bK6, bK7, bK8]); simp (maxSteps := 10000000) (disch := omega) only [go_sem, ↓reduceIte, Nat.reduceEqDiff, Nat.reduceSub, Nat.reduceLeDiff, Nat.reduceAdd, Int.reduceEq, Int.reduceLT, Int.reduceLE]
     · (try simp only [bK1, bK2, bK3, bK4, bK5, bK6, bK7, bK8]); simp (maxSteps := 10000000) (disch := omega) only [go_sem, ↓reduceIte, Nat.reduceEqDiff, Nat.reduceSub, Nat.reduceLeDiff, Nat.reduceAdd, Int.reduceEq, Int.reduceLT, Int.reduceLE]
   · have e : (3000 : Int) - (fewT (L.take k) : Int) - (((min b.length 3000 : Nat) : Int) + 1) = 3000 - (fewT (L.take (k + 1)) : Int) := by omega
     have hb : fewB L = false := by simp [fewB]; omega
     (try simp only [bK1, bK2, bK3, bK4, bK5, bK6, bK7, bK8]); simp (maxSteps := 10000000) (disch := omega) only [stFew, hel, hek, ld_sl, bytesE_length, hmn, e, hb, go_sem, ↓reduceIte, Nat.reduceEqDiff, Nat.reduceSub, Nat.reduceLeDiff, Nat.reduceAdd, Int.reduceEq, Int.reduceLT, Int.reduceLE]
 · obtain rfl : k = L.length := by omega
   rw [List.take_length] at hfk
   have hb : fewB L = true := by simp [fewB]; omega
   (try simp only [bK1, bK2, bK3, bK4, bK5, bK6, bK7, bK8]); simp (maxSteps := 10000000) (disch := omega) only [stFew, hb, go_sem, ↓reduceIte, Nat.reduceEqDiff, Nat.reduceSub, Nat.reduceLeDiff, Nat.reduceAdd, Int.reduceEq, Int.reduceLT, Int.reduceLE]
def xE (b : List UInt8) : List PV := [.s b]
theorem ld_xE (b : List UInt8) (K : KK) : LoadK (some (xE b)) 0 1 false K = K (.pv (.s b)) [] := by
 simp only [LoadK, ldX, eq_iff_iff]
 exact ⟨fun h => h.2.2, fun h => ⟨by simp [xE], .inr trivial, h⟩⟩
theorem xE_flat (L : List (List UInt8)) : ∀ c ∈ L.map xE, c.all PV.flat = true := by
 intro c hc
 obtain ⟨v, _, rfl⟩ := List.mem_map.1 hc
 rfl
def stTexts (f : Bool) (z : Nat) (es : List (List PV)) (L : List (List UInt8)) (k : Nat) : FS := mk [(8, .pv (.i .i64 k)), (7, .pv (.i .i64 L.length)), (6, .pv (.sl f z es)), (3, .os 40)] [(40, some (.row 1 ((L.take k).map xE)))]
set_option maxHeartbeats 1000000 in
theorem okTexts {x : SV} {f : Bool} {z : Nat} {es : List (List PV)} {L : List (List UInt8)} {h d} (hx : lents h [x] = [.pv (.sl f z es)]) (hl : lendable [x] = true) (he : BsEq es L) (hz : L = [] ∨ z = 1) (hn : L.length ≤ 300000) :
 FunOk Try.prog 26 [x] h d (.os d) [.new d (.row 1 (L.map xE))] := by
 refine fun_rowN mixed fn26 (by simp) hl (.inr (xE_flat _)) fun F => ?_
 rw [hx]
 have hel := he.1
 (try simp only [bK1, bK2, bK3, bK4, bK5, bK6, bK7, bK8]); simp (maxSteps := 10000000) (disch := omega) only [ir26, hel, go_sem, ↓reduceIte, Nat.reduceEqDiff, Nat.reduceSub, Nat.reduceLeDiff, Nat.reduceAdd, Int.reduceEq, Int.reduceLT, Int.reduceLE]
 refine loop_ok mixed (stTexts f z es L) (fun k => k ≤ L.length) (fun k => L.length - k) 0 (by simp) (wk_nil 3 40 1 rfl (by omega) (weak_mk ?_ ?_)) fun k hk => ?_
 · (try simp only [bK1, bK2, bK3, bK4, bK5, bK6, bK7, bK8]); simp (maxSteps := 10000000) (disch := omega) only [go_sem, ↓reduceIte, Nat.reduceEqDiff, Nat.reduceSub, Nat.reduceLeDiff, Nat.reduceAdd, Int.reduceEq, Int.reduceLT, Int.reduceLE]
 · (try simp only [bK1, bK2, bK3, bK4, bK5, bK6, bK7, bK8]); simp (maxSteps := 10000000) (disch := omega) only [go_sem, ↓reduceIte, Nat.reduceEqDiff, Nat.reduceSub, Nat.reduceLeDiff, Nat.reduceAdd, Int.reduceEq, Int.reduceLT, Int.reduceLE]
   rfl
 by_cases hlt : k < L.length
 · have hz1 : z = 1 := hz.resolve_left fun e => by subst e; simp at hlt
   subst hz1
   obtain ⟨f', z', hek, hz'⟩ := he.2 k hlt
   have ht : L.take (k + 1) = L.take k ++ [L.getD k []] := by rw [List.take_add_one, List.getElem?_eq_getElem hlt, List.getD_eq_getElem?_getD, List.getElem?_eq_getElem hlt]; rfl
   generalize L.getD k [] = b at *
   have hkl : (L.take k).length ≤ 300000 := by simp; omega
   (try simp only [bK1, bK2, bK3, bK4, bK5, bK6, bK7, bK8]); simp (maxSteps := 10000000) (disch := omega) only [stTexts, hel, hek, ld_sl, List.length_map, go_sem, ↓reduceIte, Nat.reduceEqDiff, Nat.reduceSub, Nat.reduceLeDiff, Nat.reduceAdd, Int.reduceEq, Int.reduceLT, Int.reduceLE]
   refine ⟨k + 1, by omega, by omega, wk_ren 16 40 (by decide) rfl (weak_mk ?_ ?_)⟩
   · (try simp only [bK1, bK2, bK3, bK4, bK5, bK6, bK7, bK8]); simp (maxSteps := 10000000) (disch := omega) only [go_sem, ↓reduceIte, Nat.reduceEqDiff, Nat.reduceSub, Nat.reduceLeDiff, Nat.reduceAdd, Int.reduceEq, Int.reduceLT, Int.reduceLE]
   · (try simp only [bK1, bK2, bK3, bK4, bK5, bK6, bK7, bK8]); simp (maxSteps := 10000000) (disch := omega) only [ht, List.map_append, List.map_cons, List.map_nil, xE, go_sem, ↓reduceIte, Nat.reduceEqDiff, Nat.reduceSub, Nat.reduceLeDiff, Nat.reduceAdd, Int.reduceEq, Int.reduceLT, Int.reduceLE]
 · obtain rfl : k = L.length := by omega
   have e := List.take_length (l := L)
   (try simp only [bK1, bK2, bK3, bK4, bK5, bK6, bK7, bK8]); simp (maxSteps := 10000000) (disch := omega) only [stTexts, e, go_sem, ↓reduceIte, Nat.reduceEqDiff, Nat.reduceSub, Nat.reduceLeDiff, Nat.reduceAdd, Int.reduceEq, Int.reduceLT, Int.reduceLE]
def stSameS (f g : Bool) (L M : List (List UInt8)) (k : Nat) : FS := mk [(13, .pv (.i .i64 k)), (12, .pv (.i .i64 L.length)), (0, .pv (.sl f 1 (L.map xE))), (1, .pv (.sl g 1 (M.map xE)))] []
set_option maxHeartbeats 1000000 in
theorem okSameS {x y : SV} {f g : Bool} {L M : List (List UInt8)} {h d} (hx : lents h [x, y] = [.pv (.sl f 1 (L.map xE)), .pv (.sl g 1 (M.map xE))]) (hl : lendable [x, y] = true) (hn : L.length ≤ 300000) (hn' : M.length ≤ 300000) :
 FunOk Try.prog 28 [x, y] h d (.pv (.b (decide (L = M)))) [] := by
 refine fun_scalar mixed fn28 (by simp) hl rfl fun F => ?_
 rw [hx]
 by_cases hlen : L.length = M.length
 · have hle : (L.length : Int) = (M.length : Int) := by omega
   (try simp only [bK1, bK2, bK3, bK4, bK5, bK6, bK7, bK8]); simp (maxSteps := 10000000) (disch := omega) only [ir28, List.length_map, hle, go_sem, ↓reduceIte, Nat.reduceEqDiff, Nat.reduceSub, Nat.reduceLeDiff, Nat.reduceAdd, Int.reduceEq, Int.reduceLT, Int.reduceLE]
   refine loop_ok mixed (stSameS f g L M) (fun k => k ≤ L.length ∧ L.take k = M.take k) (fun k => L.length - k) 0 (by simp) (weak_mk ?_ ?_) fun k hk => ?_
   · (try simp only [bK1, bK2, bK3, bK4, bK5, bK6, bK7, bK8]); simp (maxSteps := 10000000) (disch := omega) only [List.length_map, hle, go_sem, ↓reduceIte, Nat.reduceEqDiff, Nat.reduceSub, Nat.reduceLeDiff, Nat.reduceAdd, Int.reduceEq, Int.reduceLT, Int.reduceLE]
   · (try simp only [bK1, bK2, bK3, bK4, bK5, bK6, bK7, bK8]); simp (maxSteps := 10000000) (disch := omega) only [go_sem, ↓reduceIte, Nat.reduceEqDiff, Nat.reduceSub, Nat.reduceLeDiff, Nat.reduceAdd, Int.reduceEq, Int.reduceLT, Int.reduceLE]
   obtain ⟨hk, heq⟩ := hk
   by_cases hlt : k < L.length
   · have h1 : (L.map xE)[k]? = some (xE L[k]) := by simp [hlt]
     have hm : k < M.length := by omega
     have h2 : (M.map xE)[k]? = some (xE M[k]) := by simp [hm]
     by_cases hd : L[k] = M[k]
     · (try simp only [bK1, bK2, bK3, bK4, bK5, bK6, bK7, bK8]); simp (maxSteps := 10000000) (disch := omega) only [stSameS, List.length_map, h1, h2, ld_xE, hd, go_sem, ↓reduceIte, Nat.reduceEqDiff, Nat.reduceSub, Nat.reduceLeDiff, Nat.reduceAdd, Int.reduceEq, Int.reduceLT, Int.reduceLE]
       refine loop_next (k + 1) _ _ rfl ⟨by omega, ?_⟩ (by omega) ?_ ?_
       · rw [List.take_add_one, List.take_add_one, heq, List.getElem?_eq_getElem hlt, List.getElem?_eq_getElem hm, hd]
       · (try simp only [bK1, bK2, bK3, bK4, bK5, bK6, bK7, bK8]); simp (maxSteps := 10000000) (disch := omega) only [go_sem, ↓reduceIte, Nat.reduceEqDiff, Nat.reduceSub, Nat.reduceLeDiff, Nat.reduceAdd, Int.reduceEq, Int.reduceLT, Int.reduceLE]
       · (try simp only [bK1, bK2, bK3, bK4, bK5, bK6, bK7, bK8]); simp (maxSteps := 10000000) (disch := omega) only [go_sem, ↓reduceIte, Nat.reduceEqDiff, Nat.reduceSub, Nat.reduceLeDiff, Nat.reduceAdd, Int.reduceEq, Int.reduceLT, Int.reduceLE]
     · have hne : ¬ L = M := fun e => hd (by subst e; rfl)
       (try simp only [bK1, bK2, bK3, bK4, bK5, bK6, bK7, bK8]); simp (maxSteps := 10000000) (disch := omega) only [stSameS, List.length_map, h1, h2, ld_xE, hd, hne, go_sem, ↓reduceIte, Nat.reduceEqDiff, Nat.reduceSub, Nat.reduceLeDiff, Nat.reduceAdd, Int.reduceEq, Int.reduceLT, Int.reduceLE]
   · obtain rfl : k = L.length := by omega
     have hLM : L = M := by
      rw [List.take_length] at heq
      rw [heq, hlen, List.take_length]
     subst hLM
     (try simp only [bK1, bK2, bK3, bK4, bK5, bK6, bK7, bK8]); simp (maxSteps := 10000000) (disch := omega) only [stSameS, List.length_map, go_sem, ↓reduceIte, Nat.reduceEqDiff, Nat.reduceSub, Nat.reduceLeDiff, Nat.reduceAdd, Int.reduceEq, Int.reduceLT, Int.reduceLE]
 · have hle : ¬ (L.length : Int) = (M.length : Int) := by omega
   have hne : ¬ L = M := fun e => hlen (by rw [e])
   (try simp only [bK1, bK2, bK3, bK4, bK5, bK6, bK7, bK8]); simp (maxSteps := 10000000) (disch := omega) only [ir28, List.length_map, hle, hne, go_sem, ↓reduceIte, Nat.reduceEqDiff, Nat.reduceSub, Nat.reduceLeDiff, Nat.reduceAdd, Int.reduceEq, Int.reduceLT, Int.reduceLE]
end Go.Proofs.Ytfkmlmckihmihaa.Fw
namespace Go.Proofs.Ytfkmlmckihmihaa.Fw
open Go.RowKit
noncomputable abbrev allOf (w : World) : View := viewOf w fun _ => False
theorem cell_view {w : World} {a : Addr} {v : Value} (h : w.cell? a = some v) : a.spot = none ∧ ∃ arr, allOf w a.block = some arr ∧ arr[a.off]? = some v := by
 unfold World.cell? at h
 split at h
 · rename_i c ty fr hb
   split at h
   · cases h
   · rename_i hs
     refine ⟨by cases hx : a.spot <;> simp_all, c, ?_, h⟩
     unfold allOf viewOf cellsAt
     simp [hb]
 · cases h
inductive Sh where
 | int (k : IntKind) | bool | str | arr (n : Nat) (s : Sh) | st (l : List Sh) | sl (s : Sh)
mutual
def Sh.w : Sh → Nat
 | .arr n s => n * s.w
 | .st l => Sh.wL l
 | _ => 1
def Sh.wL : List Sh → Nat
 | [] => 0
 | s :: l => s.w + Sh.wL l
end
mutual
def shB (P : Program) : Sh → TypeId → Bool
 | .int k, t => match P.underlying t with | some (.int k') => decide (k = k') | _ => false
 | .bool, t => match P.underlying t with | some .bool => true | _ => false
 | .str, t => match P.underlying t with | some .string => true | _ => false
 | .arr n s, t => match P.underlying t with | some (.array n' e) => decide (n = n') && decide (P.cellsOf e = s.w) && decide (P.cellsOf t = n * s.w) && shB P s e | _ => false
 | .st l, t => match P.underlying t with | some (.struct fs) => decide (P.cellsOf t = Sh.wL l) && shBL P l fs.toList 0 | _ => false
 | .sl s, t => match P.underlying t with | some (.slice e) => decide (P.cellsOf e = s.w) && decide (0 < s.w) && shB P s e | _ => false
def shBL (P : Program) : List Sh → List Field → Nat → Bool
 | [], [], _ => true
 | s :: l, f :: fs, off => decide (f.offset = off) && decide (P.cellsOf f.type = s.w) && shB P s f.type && shBL P l fs (off + s.w)
 | _, _, _ => false
end
mutual
def GC : Sh → List PV → Prop
 | .int k, cs => ∃ n, cs = [.i k n] ∧ (Lit.int k n).wf = true
 | .bool, cs => ∃ b, cs = [.b b]
 | .str, cs => ∃ l, cs = [.s l] ∧ l.length ≤ maxLen
 | .arr n s, cs => ∃ cc : List (List PV), cs = cc.flatten ∧ cc.length = n ∧ ∀ c ∈ cc, GC s c
 | .st l, cs => GCL l cs
 | .sl s, cs => ∃ es, cs = [.sl false s.w es] ∧ es.length ≤ maxLen ∧ ∀ c ∈ es, GC s c
def GCL : List Sh → List PV → Prop
 | [], cs => cs = []
 | s :: l, cs => ∃ c cs', cs = c ++ cs' ∧ GC s c ∧ GCL l cs'
end
theorem flat_len {w : Nat} : ∀ {cc : List (List PV)}, (∀ c ∈ cc, c.length = w) → cc.flatten.length = cc.length * w
 | [], _ => by simp
 | c :: cc, h => by
  rw [List.flatten_cons, List.length_append, flat_len fun c hc => h c (by simp [hc]), h c (by simp), List.length_cons, Nat.add_mul]; omega
mutual
theorem GC.len : ∀ {s : Sh} {cs : List PV}, GC s cs → cs.length = s.w
 | .int k, cs, h => by obtain ⟨n, rfl, _⟩ := h; rfl
 | .bool, cs, h => by obtain ⟨n, rfl⟩ := h; rfl
 | .str, cs, h => by obtain ⟨n, rfl, _⟩ := h; rfl
 | .arr n s, cs, h => by
  simp only [GC] at h
  obtain ⟨cc, rfl, rfl, h⟩ := h
  rw [flat_len fun c hc => GC.len (h c hc)]; rfl
 | .st l, cs, h => by simp only [GC] at h; simp only [Sh.w]; exact GCL.len h
 | .sl s, cs, h => by obtain ⟨n, rfl, _⟩ := h; rfl
theorem GCL.len : ∀ {l : List Sh} {cs : List PV}, GCL l cs → cs.length = Sh.wL l
 | [], cs, h => by simp only [GCL] at h; subst h; rfl
 | s :: l, cs, h => by
  simp only [GCL] at h
  obtain ⟨c, cs', rfl, h1, h2⟩ := h
  rw [List.length_append, GC.len h1, GCL.len h2]; rfl
end
theorem arr_GC {V : View} {s : Sh} : ∀ (n : Nat) (vs : List Value), vs.length = n * s.w → (∀ i, i < n → ∃ c, GC s c ∧ PCells V c ((vs.drop (i * s.w)).take s.w)) → ∃ cc : List (List PV), cc.length = n ∧ (∀ c ∈ cc, GC s c) ∧ PCells V cc.flatten vs
 | 0, vs, hl, h => by
  have : vs = [] := List.eq_nil_of_length_eq_zero (by omega)
  subst this
  exact ⟨[], rfl, by simp, PCells.nil⟩
 | n + 1, vs, hl, h => by
  rw [Nat.add_mul] at hl
  obtain ⟨c, g, p⟩ := h 0 (by omega)
  rw [Nat.zero_mul, List.drop_zero] at p
  obtain ⟨cc, e1, e2, e3⟩ := arr_GC (V := V) (s := s) n (vs.drop s.w) (by rw [List.length_drop]; omega) fun i hi => by
   obtain ⟨c', g', p'⟩ := h (i + 1) (by omega)
   refine ⟨c', g', ?_⟩
   rw [List.drop_drop, show s.w + i * s.w = (i + 1) * s.w from by rw [Nat.add_mul]; omega]
   exact p'
  refine ⟨c :: cc, by simp [e1], fun x hx => ?_, ?_⟩
  · rcases List.mem_cons.1 hx with rfl | hx
    · exact g
    · exact e2 x hx
  · rw [List.flatten_cons]
    have := PCells.append p e3
    rwa [List.take_append_drop] at this
theorem add_add {a : Addr} (h : a.spot = none) (i j : Nat) : (a.add i).add j = ⟨a.block, a.off + (i + j), none⟩ := by
 obtain ⟨b, o, sp⟩ := a
 simp only at h; subst h
 unfold Addr.add
 by_cases hi : i = 0
 · subst hi
   by_cases hj : j = 0
   · subst hj; simp
   · simp [hj]
 · by_cases hj : j = 0
   · subst hj; simp [hi]
   · simp [hi, hj]; omega
theorem slice_GC {w : World} {s : Sh} {a : Addr} {len cap : Nat} (hcap : len ≤ cap) (hw : 0 < s.w)
 (h : ∀ i, i < len → ∃ c vs, GC s c ∧ PCells (allOf w) c vs ∧ w.cells? 0 (a.add (i * s.w)) s.w = some vs) :
 ∃ es : List (List PV), es.length = len ∧ (∀ c ∈ es, GC s c) ∧ PConc (allOf w) (.sl false s.w es) (.slice (some a) len cap) := by
 by_cases h0 : len = 0
 · subst h0
   exact ⟨[], rfl, by simp, .sl false s.w [] (some a) cap (fun _ _ => undef) 0 0 #[] (by simp) (by simp) (by simp) (by simp) (by simp) (by simp)⟩
 · have h' : ∀ i, ∃ c vs, i < len → GC s c ∧ PCells (allOf w) c vs ∧ w.cells? 0 (a.add (i * s.w)) s.w = some vs := fun i => by
    by_cases hi : i < len
    · obtain ⟨c, vs, h1⟩ := h i hi; exact ⟨c, vs, fun _ => h1⟩
    · exact ⟨[], [], fun h => absurd h hi⟩
   obtain ⟨c, hc⟩ := Classical.axiomOfChoice h'
   obtain ⟨vs, hv⟩ := Classical.axiomOfChoice hc
   obtain ⟨g0, p0, k0⟩ := hv 0 (by omega)
   obtain ⟨_, l0, c0⟩ := World.cells?_some k0
   have c00 := c0 0 hw
   have hlen0 : 0 < (vs 0).length := by omega
   rw [List.getElem?_eq_getElem hlen0, Nat.zero_mul] at c00
   have e0 : (a.add 0).add 0 = a := by simp [Addr.add]
   rw [e0] at c00
   obtain ⟨hs, arr, harr, _⟩ := cell_view c00
   have hget : ∀ i j, i < len → j < s.w → arr[a.off + (i * s.w + j)]? = (vs i)[j]? := fun i j hi hj => by
    obtain ⟨_, _, k⟩ := hv i hi
    obtain ⟨_, ll, cc⟩ := World.cells?_some k
    have h1 := cc j hj
    have hlt : j < (vs i).length := by omega
    rw [List.getElem?_eq_getElem hlt, add_add hs] at h1
    obtain ⟨_, arr', ha', h2⟩ := cell_view h1
    simp only at ha' h2
    rw [harr] at ha'; cases ha'
    rw [h2, List.getElem?_eq_getElem hlt]
   have hel : ∀ i, i < len → ((List.range len).map c)[i]? = some (c i) := fun i hi => by simp [hi]
   refine ⟨(List.range len).map c, by simp, fun x hx => ?_, ?_⟩
   · obtain ⟨i, hi, rfl⟩ := List.mem_map.1 hx
     exact (hv i (by simpa using hi)).1
   · have e := PConc.sl (V := allOf w) false s.w ((List.range len).map c) (some a) cap (fun i j => (vs i).getD j undef) a.block a.off arr (by simpa using hcap) (by simp) (fun x hx => by
      obtain ⟨i, hi, rfl⟩ := List.mem_map.1 hx
      exact (hv i (by simpa using hi)).1.len) (fun _ => by
      obtain ⟨b, o, sp⟩ := a
      simp only at hs; subst hs
      exact ⟨rfl, harr⟩) (fun i j hi hj => by
      have hi' : i < len := by simpa using hi
      rw [hget i j hi' hj]
      have : j < (vs i).length := by
       obtain ⟨_, ll, _⟩ := World.cells?_some (hv i hi').2.2; omega
      simp [List.getD_eq_getElem?_getD, this]) (fun i j x y hx hy => by
      have hi' : i < len := by
       have := (List.getElem?_eq_some_iff.1 hx).1; simpa using this
      rw [hel i hi'] at hx; cases hx
      obtain ⟨v, hv1, hv2⟩ := (hv i hi').2.1.2 j y hy
      simp only [List.getD_eq_getElem?_getD, hv1, Option.getD_some]; exact hv2)
     simpa using e
section
variable {H : Type} {enc : TypeId × Value → H} {P : Program} {w : World} {spare : Nat → Bool} {held : Bool}
mutual
theorem trod_GC : ∀ (s : Sh) {t : TypeId} {fuel : Nat} {vs : List Value} {x}, shB P s t = true → DataW.trod enc P w 0 spare held fuel t vs = some x → ∃ cs, GC s cs ∧ PCells (allOf w) cs vs
 | .int k, t, fuel, vs, x, hs, h => by
  simp only [shB] at hs
  split at hs
  · rename_i k' hu
    obtain rfl := of_decide_eq_true hs
    obtain ⟨n, rfl, _, hw⟩ := DataW.trod_int hu h
    exact ⟨[.i k n], ⟨n, rfl, hw⟩, PCells.cons (.i _ _) PCells.nil⟩
  · cases hs
 | .bool, t, fuel, vs, x, hs, h => by
  simp only [shB] at hs
  split at hs
  · rename_i hu
    obtain ⟨n, rfl, _⟩ := DataW.trod_bool hu h
    exact ⟨[.b n], ⟨n, rfl⟩, PCells.cons (.b _) PCells.nil⟩
  · cases hs
 | .str, t, fuel, vs, x, hs, h => by
  simp only [shB] at hs
  split at hs
  · rename_i hu
    obtain ⟨b, rfl, _, hl⟩ := DataW.trod_string hu h
    refine ⟨[.s b.data.toList], ⟨b.data.toList, rfl, by simpa using hl⟩, PCells.cons ?_ PCells.nil⟩
    have := PConc.s (V := allOf w) b.data.toList
    simpa using this
  · cases hs
 | .arr n s, t, fuel, vs, x, hs, h => by
  simp only [shB] at hs
  split at hs
  · rename_i n' e hu
    simp only [Bool.and_eq_true, decide_eq_true_eq] at hs
    obtain ⟨⟨⟨rfl, h1⟩, h2⟩, h3⟩ := hs
    obtain ⟨xs, m, rfl, _, hl, hx, hg⟩ := DataW.trod_array hu h
    rw [h1] at hg
    obtain ⟨cc, e1, e2, e3⟩ := arr_GC (V := allOf w) (s := s) n vs (by rw [hl, h2]) fun i hi => by
     have := hg i hi
     rw [List.getElem?_eq_getElem (by omega)] at this
     exact trod_GC s h3 this
    exact ⟨cc.flatten, by simp only [GC]; exact ⟨cc, rfl, e1, e2⟩, e3⟩
  · cases hs
 | .st l, t, fuel, vs, x, hs, h => by
  simp only [shB] at hs
  split at hs
  · rename_i fs hu
    simp only [Bool.and_eq_true, decide_eq_true_eq] at hs
    obtain ⟨h2, h3⟩ := hs
    obtain ⟨xs, m, rfl, _, hl, hx, hg⟩ := DataW.trod_struct hu h
    obtain ⟨cs, e1, e2⟩ := trod_GCL l (off := 0) (vs := vs) h3 fun f hf => by
     obtain ⟨i, hi⟩ := List.mem_iff_getElem?.1 hf
     have hi2 : fs[i]? = some f := by simpa using hi
     have := hg i f hi2
     have hlt := (Array.getElem?_eq_some_iff.1 hi2).1
     rw [List.getElem?_eq_getElem (by omega)] at this
     exact ⟨_, _, this⟩
    rw [List.drop_zero, ← h2, ← hl, List.take_length] at e2
    exact ⟨cs, by simp only [GC]; exact e1, e2⟩
  · cases hs
 | .sl s, t, fuel, vs, x, hs, h => by
  simp only [shB] at hs
  split at hs
  · rename_i e hu
    simp only [Bool.and_eq_true, decide_eq_true_eq] at hs
    obtain ⟨⟨h1, h2⟩, h3⟩ := hs
    rcases DataW.trod_slice hu h with ⟨rfl, _⟩ | ⟨a, len, cap, elems, rest, n, rfl, rfl, _, _, hl, hm, hle, hg, _⟩
    · exact ⟨[.sl false s.w []], by simp only [GC]; exact ⟨[], rfl, by simp, by simp⟩, PCells.cons (.sl false s.w [] none 0 (fun _ _ => undef) 0 0 #[] (by simp) (by simp) (by simp) (by simp) (by simp) (by simp)) PCells.nil⟩
    · rw [h1] at hg
      obtain ⟨es, e1, e2, e3⟩ := slice_GC (w := w) (s := s) (a := a) hl h2 fun i hi => by
       have h4 := hg i hi
       rw [List.getElem?_eq_getElem (by omega)] at h4
       obtain ⟨vs, h5, h6⟩ := Option.bind_eq_some_iff.1 h4
       obtain ⟨c, g, p⟩ := trod_GC s h3 h6
       exact ⟨c, vs, g, p, h5⟩
      exact ⟨[.sl false s.w es], by simp only [GC]; exact ⟨es, rfl, by omega, e2⟩, PCells.cons e3 PCells.nil⟩
  · cases hs
theorem trod_GCL : ∀ (l : List Sh) {fs : List Field} {off : Nat} {vs : List Value}, shBL P l fs off = true →
 (∀ f ∈ fs, ∃ n x, DataW.trod enc P w 0 spare held n f.type ((vs.drop f.offset).take (P.cellsOf f.type)) = some x) → ∃ cs, GCL l cs ∧ PCells (allOf w) cs ((vs.drop off).take (Sh.wL l))
 | [], fs, off, vs, hs, h => ⟨[], by simp only [GCL], by simp only [Sh.wL, List.take_zero]; exact PCells.nil⟩
 | s :: l, [], off, vs, hs, h => by simp [shBL] at hs
 | s :: l, f :: fs, off, vs, hs, h => by
  simp only [shBL, Bool.and_eq_true, decide_eq_true_eq] at hs
  obtain ⟨⟨⟨h1, h2⟩, h3⟩, h4⟩ := hs
  obtain ⟨n, x, hx⟩ := h f (by simp)
  obtain ⟨c, g, p⟩ := trod_GC s h3 hx
  obtain ⟨cs, gl, pl⟩ := trod_GCL l (vs := vs) h4 fun f hf => h f (by simp [hf])
  refine ⟨c ++ cs, by simp only [GCL]; exact ⟨c, cs, rfl, g, gl⟩, ?_⟩
  rw [h1, h2] at p
  have := PCells.append p pl
  have e : (vs.drop off).take (Sh.wL (s :: l)) = (vs.drop off).take s.w ++ (vs.drop (off + s.w)).take (Sh.wL l) := by
   simp only [Sh.wL]
   rw [List.take_add, List.drop_drop]
  rw [e]; exact this
end
end
mutual
def toSV : Sh → List PV → SV
 | .arr n s, cs => .vec (n * s.w) cs
 | .st l, cs => .agg (toSegs l cs)
 | _, cs => .pv (cs.headD (.b false))
def toSegs : List Sh → List PV → List SV
 | [], _ => []
 | s :: l, cs => (toSV s (cs.take s.w)).segs ++ toSegs l (cs.drop s.w)
end
def Sh.isAg : Sh → Bool
 | .arr _ _ => true
 | .st _ => true
 | _ => false
theorem cells_append {V : View} {ρ : Nat → Value} : ∀ {l m : List SV} {a b : List Value}, Cells V ρ l a → Cells V ρ m b → Cells V ρ (l ++ m) (a ++ b)
 | [], m, a, b, h1, h2 => by simp only [Cells] at h1; subst h1; exact h2
 | x :: l, m, a, b, h1, h2 => by
  simp only [Cells, List.cons_append] at h1 ⊢
  obtain ⟨u, us, rfl, c, d, e, f⟩ := h1
  exact ⟨u, us ++ b, by simp, c, d, e, cells_append f h2⟩
mutual
theorem conc_toSV {V : View} {ρ : Nat → Value} : ∀ (s : Sh) {cs : List PV} {v : Value}, GC s cs → PCells V cs (flatV v) → (s.isAg = true → ∃ vs, v = .agg ⟨vs⟩) → (s.isAg = false → ∀ vs, v ≠ .agg vs) → Conc V ρ (toSV s cs) v
 | .int k, cs, v, g, p, _, h => by
  obtain ⟨n, rfl, _⟩ := g
  have e : flatV v = [v] := by cases v <;> first | rfl | exact absurd rfl (h rfl _)
  rw [e] at p
  obtain ⟨v', h1, h2⟩ := p.2 0 _ rfl
  simp at h1; subst h1
  simp only [toSV, Conc, List.headD_cons]; exact h2
 | .bool, cs, v, g, p, _, h => by
  obtain ⟨n, rfl⟩ := g
  have e : flatV v = [v] := by cases v <;> first | rfl | exact absurd rfl (h rfl _)
  rw [e] at p
  obtain ⟨v', h1, h2⟩ := p.2 0 _ rfl
  simp at h1; subst h1
  simp only [toSV, Conc, List.headD_cons]; exact h2
 | .str, cs, v, g, p, _, h => by
  obtain ⟨n, rfl, _⟩ := g
  have e : flatV v = [v] := by cases v <;> first | rfl | exact absurd rfl (h rfl _)
  rw [e] at p
  obtain ⟨v', h1, h2⟩ := p.2 0 _ rfl
  simp at h1; subst h1
  simp only [toSV, Conc, List.headD_cons]; exact h2
 | .sl s, cs, v, g, p, _, h => by
  simp only [GC] at g
  obtain ⟨n, rfl, _⟩ := g
  have e : flatV v = [v] := by cases v <;> first | rfl | exact absurd rfl (h rfl _)
  rw [e] at p
  obtain ⟨v', h1, h2⟩ := p.2 0 _ rfl
  simp at h1; subst h1
  simp only [toSV, Conc, List.headD_cons]; exact h2
 | .arr n s, cs, v, g, p, h, _ => by
  obtain ⟨vs, rfl⟩ := h rfl
  have hl := g.len
  simp only [toSV, Conc]
  refine ⟨vs, rfl, ?_, p⟩
  have e1 : vs.length = cs.length := p.1.symm
  rw [e1, hl]; rfl
 | .st l, cs, v, g, p, h, _ => by
  obtain ⟨vs, rfl⟩ := h rfl
  simp only [GC] at g
  simp only [toSV, Conc]
  exact ⟨vs, rfl, conc_toSegs l g p⟩
theorem conc_toSegs {V : View} {ρ : Nat → Value} : ∀ (l : List Sh) {cs : List PV} {vs : List Value}, GCL l cs → PCells V cs vs → Cells V ρ (toSegs l cs) vs
 | [], cs, vs, g, p => by
  simp only [GCL] at g; subst g
  have : vs = [] := List.eq_nil_of_length_eq_zero (by rw [← p.1]; rfl)
  subst this
  simp only [toSegs, Cells]
 | s :: l, cs, vs, g, p => by
  simp only [GCL] at g
  obtain ⟨c, cs', rfl, g1, g2⟩ := g
  have hl := g1.len
  have p1 : PCells V c (vs.take c.length) := by
   have := p.split c.length |>.1
   simpa using this
  have p2 : PCells V cs' (vs.drop c.length) := by
   have := p.split c.length |>.2
   simpa using this
  have hvs : vs = vs.take c.length ++ vs.drop c.length := (List.take_append_drop _ _).symm
  have hlen : (vs.take c.length).length = s.w := by rw [← p1.1, hl]
  simp only [toSegs]
  rw [List.take_left' hl, List.drop_left' hl]
  rw [hvs]
  refine cells_append ?_ (conc_toSegs l g2 p2)
  cases s with
  | st m =>
   simp only [GC] at g1
   simp only [toSV, SV.segs]
   exact conc_toSegs m g1 p1
  | arr n s' =>
   have := conc_toSV (V := V) (ρ := ρ) (.arr n s') (v := .agg ⟨vs.take c.length⟩) g1 (by simpa [flatV] using p1) (fun _ => ⟨_, rfl⟩) (by simp [Sh.isAg])
   simp only [toSV] at this ⊢
   simp only [SV.segs, Cells]
   exact ⟨_, [], by simp [flatV], this, by simpa [flatV, SV.width, Sh.w] using hlen, fun v hv => p1.one v (by simpa [flatV] using hv), rfl⟩
  | int k =>
   obtain ⟨n, rfl, _⟩ := g1
   obtain ⟨v, h1, h2⟩ := p1.2 0 _ rfl
   have e : vs.take [PV.i k n].length = [v] := by
    match hx : vs.take [PV.i k n].length, h1, hlen with
    | [u], h1, _ => simp at h1; rw [h1]
   have ho := h2.one
   have fv : flatV v = [v] := by cases v <;> first | rfl | exact absurd ho (by simp [oneCell])
   rw [e]
   simp only [toSV, SV.segs, Cells, Conc, List.headD_cons]
   exact ⟨v, [], by rw [fv]; rfl, h2, by rw [fv]; rfl, by rw [fv]; simpa using ho, rfl⟩
  | bool =>
   obtain ⟨n, rfl⟩ := g1
   obtain ⟨v, h1, h2⟩ := p1.2 0 _ rfl
   have e : vs.take [PV.b n].length = [v] := by
    match hx : vs.take [PV.b n].length, h1, hlen with
    | [u], h1, _ => simp at h1; rw [h1]
   have ho := h2.one
   have fv : flatV v = [v] := by cases v <;> first | rfl | exact absurd ho (by simp [oneCell])
   rw [e]
   simp only [toSV, SV.segs, Cells, Conc, List.headD_cons]
   exact ⟨v, [], by rw [fv]; rfl, h2, by rw [fv]; rfl, by rw [fv]; simpa using ho, rfl⟩
  | str =>
   obtain ⟨n, rfl, _⟩ := g1
   obtain ⟨v, h1, h2⟩ := p1.2 0 _ rfl
   have e : vs.take [PV.s n].length = [v] := by
    match hx : vs.take [PV.s n].length, h1, hlen with
    | [u], h1, _ => simp at h1; rw [h1]
   have ho := h2.one
   have fv : flatV v = [v] := by cases v <;> first | rfl | exact absurd ho (by simp [oneCell])
   rw [e]
   simp only [toSV, SV.segs, Cells, Conc, List.headD_cons]
   exact ⟨v, [], by rw [fv]; rfl, h2, by rw [fv]; rfl, by rw [fv]; simpa using ho, rfl⟩
  | sl s' =>
   simp only [GC] at g1
   obtain ⟨n, rfl, _⟩ := g1
   obtain ⟨v, h1, h2⟩ := p1.2 0 _ rfl
   have e : vs.take [PV.sl false s'.w n].length = [v] := by
    match hx : vs.take [PV.sl false s'.w n].length, h1, hlen with
    | [u], h1, _ => simp at h1; rw [h1]
   have ho := h2.one
   have fv : flatV v = [v] := by cases v <;> first | rfl | exact absurd ho (by simp [oneCell])
   rw [e]
   simp only [toSV, SV.segs, Cells, Conc, List.headD_cons]
   exact ⟨v, [], by rw [fv]; rfl, h2, by rw [fv]; rfl, by rw [fv]; simpa using ho, rfl⟩
end
mutual
theorem toSV_closed : ∀ (s : Sh) (cs : List PV), (toSV s cs).closed = true
 | .int k, cs => rfl
 | .bool, cs => rfl
 | .str, cs => rfl
 | .sl s, cs => rfl
 | .arr n s, cs => rfl
 | .st l, cs => by simp only [toSV, SV.closed]; exact toSegs_closed l cs
theorem toSegs_closed : ∀ (l : List Sh) (cs : List PV), SV.closedL (toSegs l cs) = true
 | [], cs => rfl
 | s :: l, cs => by
  simp only [toSegs]
  have h2 := toSegs_closed l (cs.drop s.w)
  have app : ∀ (a b : List SV), SV.closedL a = true → SV.closedL b = true → SV.closedL (a ++ b) = true := fun a b ha hb => by
   induction a with
   | nil => exact hb
   | cons x a ih => simp only [SV.closedL, Bool.and_eq_true, List.cons_append] at ha ⊢; exact ⟨ha.1, ih ha.2⟩
  refine app _ _ ?_ h2
  cases s with
  | st m => simp only [toSV, SV.segs]; exact toSegs_closed m _
  | int k => rfl
  | bool => rfl
  | str => rfl
  | sl s => rfl
  | arr n s => rfl
end
theorem okWide_ag {P : Program} {w : World} {base : Nat} {t : TypeId} {v : Value} : ∀ {s : Sh}, shB P s t = true → Value.okWide P w .any base t v → (s.isAg = true → ∃ vs, v = .agg ⟨vs⟩) ∧ (s.isAg = false → ∀ vs, v ≠ .agg vs)
 | .int k, hs, h => by
  simp only [shB] at hs
  split at hs
  · rename_i k' hu
    obtain ⟨n, rfl⟩ := WideShapes.okWide_int hu h
    exact ⟨fun h => (by cases h), fun _ vs e => by cases e⟩
  · cases hs
 | .bool, hs, h => by
  simp only [shB] at hs
  split at hs
  · rename_i hu
    obtain ⟨n, rfl⟩ := WideShapes.okWide_bool hu h
    exact ⟨fun h => (by cases h), fun _ vs e => by cases e⟩
  · cases hs
 | .str, hs, h => by
  simp only [shB] at hs
  split at hs
  · rename_i hu
    obtain ⟨n, rfl⟩ := WideShapes.okWide_string hu h
    exact ⟨fun h => (by cases h), fun _ vs e => by cases e⟩
  · cases hs
 | .sl s, hs, h => by
  simp only [shB] at hs
  split at hs
  · rename_i e hu
    obtain ⟨a, b, c, rfl⟩ := WideShapes.okWide_slice hu h
    exact ⟨fun h => (by cases h), fun _ vs e => by cases e⟩
  · cases hs
 | .arr n s, hs, h => by
  simp only [shB] at hs
  split at hs
  · rename_i n' e hu
    simp only [Value.okWide, hu] at h
    obtain ⟨⟨xs⟩, rfl, _⟩ := h
    exact ⟨fun _ => ⟨_, rfl⟩, fun h => (by cases h)⟩
  · cases hs
 | .st l, hs, h => by
  simp only [shB] at hs
  split at hs
  · rename_i fs hu
    simp only [Value.okWide, hu] at h
    obtain ⟨⟨xs⟩, rfl, _⟩ := h
    exact ⟨fun _ => ⟨_, rfl⟩, fun h => (by cases h)⟩
  · cases hs
theorem arg_conc {H : Type} {enc : TypeId × Value → H} {P : Program} {w : World} {spare : Nat → Bool} {held : Bool} {base : Nat} {t : TypeId} {v : Value} {d : DataW H} {ps : List MemPlace} {s : Sh} (hs : shB P s t = true)
 (hv : Value.okWide P w .any base t v) (h : DataW.Trod enc P w 0 spare held t v d ps) : ∃ cs, GC s cs ∧ Conc (allOf w) (fun _ => undef) (toSV s cs) v := by
 obtain ⟨fuel, hf⟩ := h
 obtain ⟨cs, g, p⟩ := trod_GC s hs hf
 rw [flatV_cells] at p
 obtain ⟨h1, h2⟩ := okWide_ag hs hv
 exact ⟨cs, g, conc_toSV s g p h1 h2⟩
end Go.Proofs.Ytfkmlmckihmihaa.Fw
namespace Go.Proofs.Ytfkmlmckihmihaa.Fw
open Go.RowKit
theorem u8_wf {n : Int} (h : (Lit.int .u8 n).wf = true) : 0 ≤ n ∧ n < 256 := by
 simp [Lit.wf, IntKind.min, IntKind.max, IntKind.signed, IntKind.bits] at h; omega
theorem GC_bool {cs : List PV} (h : GC .bool cs) : ∃ n : Bool, cs = [.b n] := h
theorem GC_bytes {cs : List PV} (h : GC (.sl (.int .u8)) cs) : ∃ l : List UInt8, cs = [.sl false 1 (bytesE l)] ∧ l.length ≤ maxLen := by
 simp only [GC] at h
 obtain ⟨es, rfl, hl, g⟩ := h
 have key : ∀ es : List (List PV), (∀ c ∈ es, ∃ n, c = [PV.i .u8 n] ∧ (Lit.int .u8 n).wf = true) → ∃ l : List UInt8, es = bytesE l := fun es => by
  induction es with
  | nil => intro _; exact ⟨[], rfl⟩
  | cons c es ih =>
   intro h
   obtain ⟨n, rfl, hw⟩ := h c (by simp)
   obtain ⟨l, rfl⟩ := ih fun c hc => h c (by simp [hc])
   have hr := u8_wf hw
   refine ⟨UInt8.ofNat n.toNat :: l, ?_⟩
   simp only [bytesE, List.map_cons]
   rw [UInt8.toNat_ofNat', show n.toNat % 2 ^ 8 = n.toNat from Nat.mod_eq_of_lt (by omega), show ((n.toNat : Nat) : Int) = n from by omega]
 obtain ⟨l, rfl⟩ := key es g
 exact ⟨l, rfl, by simpa [bytesE] using hl⟩
theorem GC_sl {s : Sh} {cs : List PV} (h : GC (.sl s) cs) : ∃ es, cs = [.sl false s.w es] ∧ es.length ≤ maxLen ∧ ∀ c ∈ es, GC s c := by
 simp only [GC] at h; exact h
end Go.Proofs.Ytfkmlmckihmihaa.Fw
namespace Go.Proofs.Ytfkmlmckihmihaa.Fw
open Go.RowKit Go.Proofs
theorem bsEq_lives : BsEq [[.sl false 1 [[.i .u8 97]]], [.sl true 0 []]] [[97], []] := ⟨rfl, fun k hk => by
 have : k = 0 ∨ k = 1 := by simp at hk; omega
 rcases this with rfl | rfl
 · exact ⟨false, 1, rfl, .inr rfl⟩
 · exact ⟨true, 0, rfl, .inl rfl⟩⟩
theorem livesC {h d} : FunOk Try.prog 22 [] h d (.pv (.b true)) [] := by
 refine fun_pure mixed fn22 (by simp) rfl rfl fun F => ?_
 (try simp only [bK1, bK2, bK3, bK4, bK5, bK6, bK7, bK8]); simp (maxSteps := 10000000) (disch := omega) only [ir22, go_sem, ↓reduceIte, Nat.reduceEqDiff, Nat.reduceSub, Nat.reduceLeDiff, Nat.reduceAdd, Int.reduceEq, Int.reduceLT, Int.reduceLE]
 refine ⟨by simp, call_with (okPack (f := false) (z := 1) (L := [[97], []]) rfl rfl bsEq_lives (.inr rfl) (by decide) (by decide)) ?_⟩
 (try simp only [bK1, bK2, bK3, bK4, bK5, bK6, bK7, bK8]); simp (maxSteps := 10000000) (disch := omega) only [go_sem, ↓reduceIte, Nat.reduceEqDiff, Nat.reduceSub, Nat.reduceLeDiff, Nat.reduceAdd, Int.reduceEq, Int.reduceLT, Int.reduceLE]
 have hp : packB [[97], []] = [1, 97, 0] := rfl
 rw [hp]
 refine call_with (FunOk.frz (n := 9) (sz := 1) (es := bytesE [1, 97, 0]) rfl (by simp [tops, tn]) rfl (okUnpack (f := false) (z := 1) (b := [1, 97, 0]) (most := 2) (h := fun _ => none) (.inr rfl) (by decide))) ?_
 have hu : unpackG [1, 97, 0] [] 2 = ([[97], []], 0) := by
  have := unpack_all [[97], []] 2 (by decide) (by decide)
  rw [hp] at this; exact this
 (try simp only [bK1, bK2, bK3, bK4, bK5, bK6, bK7, bK8]); simp (maxSteps := 10000000) (disch := omega) only [hu, List.map_cons, List.map_nil, bE, List.getElem?_cons_zero, ld_sl, go_sem, ↓reduceIte, Nat.reduceEqDiff, Nat.reduceSub, Nat.reduceLeDiff, Nat.reduceAdd, Int.reduceEq, Int.reduceLT, Int.reduceLE]
end Go.Proofs.Ytfkmlmckihmihaa.Fw
namespace Go.Proofs.Ytfkmlmckihmihaa.Fw
open Go.RowKit Go.Proofs
theorem GC_bE {cs : List PV} (h : GC (.sl (.int .u8)) cs) : ∃ b : List UInt8, cs = bE b ∧ b.length ≤ maxLen := GC_bytes h
theorem els_of {α : Type} {f : α → List PV} {p : α → Prop} {s : Sh} (key : ∀ {cs}, GC s cs → ∃ x, cs = f x ∧ p x) : ∀ {es : List (List PV)}, (∀ c ∈ es, GC s c) → ∃ l : List α, es = l.map f ∧ ∀ x ∈ l, p x
 | [], _ => ⟨[], rfl, by simp⟩
 | c :: es, h => by
  obtain ⟨l, e, hp⟩ := els_of (es := es) key fun c hc => h c (List.mem_cons_of_mem _ hc)
  obtain ⟨x, e2, hx⟩ := key (h c List.mem_cons_self)
  exact ⟨x :: l, by rw [e, e2]; rfl, fun y hy => by
   rcases List.mem_cons.1 hy with hy | hy
   · rw [hy]; exact hx
   · exact hp y hy⟩
end Go.Proofs.Ytfkmlmckihmihaa.Fw
namespace Go.Proofs.Ytfkmlmckihmihaa.Fw
open Go.RowKit Go.Proofs
theorem okFieldR (b : List UInt8) (hb : b.length ≤ 65535) {h d} : FunOk Try.prog 42 [.pv (.s b)] h d (.tup [.pv (.s (fieldB b)), .pv (.b true)]) [] := by
 refine fun_pure mixed fn42 (by simp) rfl rfl fun F => ?_
 have w0 : IntKind.u8.wrap (b.length : Int) = ((UInt8.ofNat b.length).toNat : Int) := wrap_u8_nat _
 by_cases hs : b.length < 255
 · have e := fieldB_short hs
   have e4 : [[PV.i .u8 ((UInt8.ofNat b.length).toNat : Int)]] = bytesE [UInt8.ofNat b.length] := rfl
   (try simp only [bK1, bK2, bK3, bK4, bK5, bK6, bK7, bK8]); simp (maxSteps := 10000000) (disch := omega) only [ir42, w0, e4, e, List.cons_append, List.nil_append, go_sem, ↓reduceIte, Nat.reduceEqDiff, Nat.reduceSub, Nat.reduceLeDiff, Nat.reduceAdd, Int.reduceEq, Int.reduceLT, Int.reduceLE]
 · have e := fieldB_long hs
   have e1 : (b.length : Int).tdiv 256 = ((b.length / 256 : Nat) : Int) := by
    rw [Int.tdiv_eq_ediv_of_nonneg (by omega)]; omega
   have e1' : IntKind.i64.wrap ((b.length / 256 : Nat) : Int) = ((b.length / 256 : Nat) : Int) := wrap_i64 (by omega)
   have e2 : (b.length : Int).tmod 256 = ((b.length % 256 : Nat) : Int) := by rw [Int.tmod_eq_emod_of_nonneg (by omega)]; omega
   have w1 : IntKind.u8.wrap ((b.length / 256 : Nat) : Int) = ((UInt8.ofNat (b.length / 256)).toNat : Int) := wrap_u8_nat _
   have w2 : IntKind.u8.wrap ((b.length % 256 : Nat) : Int) = ((UInt8.ofNat b.length).toNat : Int) := by
    rw [wrap_u8_nat]
    congr 1
    rw [UInt8.toNat_ofNat', UInt8.toNat_ofNat']; omega
   have e4 : [[PV.i .u8 255], [PV.i .u8 ((UInt8.ofNat (b.length / 256)).toNat : Int)], [PV.i .u8 ((UInt8.ofNat b.length).toNat : Int)]] = bytesE [255, UInt8.ofNat (b.length / 256), UInt8.ofNat b.length] := rfl
   (try simp only [bK1, bK2, bK3, bK4, bK5, bK6, bK7, bK8]); simp (maxSteps := 10000000) (disch := omega) only [ir42, e1, e1', e2, w1, w2, e4, e, List.cons_append, List.nil_append, go_sem, ↓reduceIte, Nat.reduceEqDiff, Nat.reduceSub, Nat.reduceLeDiff, Nat.reduceAdd, Int.reduceEq, Int.reduceLT, Int.reduceLE]
def stPackR (L : List (List UInt8)) (k : Nat) : FS := mk [(5, .pv (.i .i64 k)), (4, .pv (.s (packB (L.take k)))), (0, .pv (.sl false 1 (L.map xE)))] []
set_option maxHeartbeats 1000000 in
theorem okPackR {x : SV} {L : List (List UInt8)} {h d} (hx : lents h [x] = [.pv (.sl false 1 (L.map xE))]) (hl : lendable [x] = true) (hb : packLen L ≤ 300000) (hLn : L.length ≤ 300000) (hall : ∀ b ∈ L, b.length ≤ 65535) :
 FunOk Try.prog 25 [x] h d (.tup [.pv (.s (packB L)), .pv (.i .i64 0)]) [] := by
 refine fun_scalar mixed fn25 (by simp) hl rfl fun F => ?_
 rw [hx]
 (try simp only [bK1, bK2, bK3, bK4, bK5, bK6, bK7, bK8]); simp (maxSteps := 10000000) (disch := omega) only [ir25, List.length_map, go_sem, ↓reduceIte, Nat.reduceEqDiff, Nat.reduceSub, Nat.reduceLeDiff, Nat.reduceAdd, Int.reduceEq, Int.reduceLT, Int.reduceLE]
 refine loop_ok mixed (stPackR L) (fun k => k ≤ L.length) (fun k => L.length - k) 0 (by simp) (weak_mk ?_ ?_) fun k hk => ?_
 · (try simp only [bK1, bK2, bK3, bK4, bK5, bK6, bK7, bK8]); simp (maxSteps := 10000000) (disch := omega) only [List.take_zero, packB, go_sem, ↓reduceIte, Nat.reduceEqDiff, Nat.reduceSub, Nat.reduceLeDiff, Nat.reduceAdd, Int.reduceEq, Int.reduceLT, Int.reduceLE]
 · (try simp only [bK1, bK2, bK3, bK4, bK5, bK6, bK7, bK8]); simp (maxSteps := 10000000) (disch := omega) only [go_sem, ↓reduceIte, Nat.reduceEqDiff, Nat.reduceSub, Nat.reduceLeDiff, Nat.reduceAdd, Int.reduceEq, Int.reduceLT, Int.reduceLE]
 by_cases hlt : k < L.length
 · have he : (L.map xE)[k]? = some (xE L[k]) := by simp [hlt]
   have ht : L.take (k + 1) = L.take k ++ [L[k]] := by rw [List.take_add_one, List.getElem?_eq_getElem hlt]; rfl
   have hm := hall L[k] (List.getElem_mem hlt)
   have hpk := Nat.le_trans (packB_len (L.take k)) (packLen_take L k)
   have hpl := packLen_mem hlt
   have hgd : L.getD k [] = L[k] := by rw [List.getD_eq_getElem?_getD, List.getElem?_eq_getElem hlt]; rfl
   rw [hgd] at hpl
   generalize L[k] = b at *
   have hpt : packB (L.take k) ++ fieldB b = packB (L.take k ++ [b]) := by rw [packB_app]; simp [packB]
   have hfl := fieldB_len b
   have hfl2 : (fieldB b).length ≤ 65538 := by rw [hfl]; split <;> omega
   (try simp only [bK1, bK2, bK3, bK4, bK5, bK6, bK7, bK8]); simp (maxSteps := 10000000) (disch := omega) only [stPackR, he, ld_xE, List.length_map, go_sem, ↓reduceIte, Nat.reduceEqDiff, Nat.reduceSub, Nat.reduceLeDiff, Nat.reduceAdd, Int.reduceEq, Int.reduceLT, Int.reduceLE]
   refine call_with (okFieldR b hm) ?_
   (try simp only [bK1, bK2, bK3, bK4, bK5, bK6, bK7, bK8]); simp (maxSteps := 10000000) (disch := omega) only [hpt, go_sem, ↓reduceIte, Nat.reduceEqDiff, Nat.reduceSub, Nat.reduceLeDiff, Nat.reduceAdd, Int.reduceEq, Int.reduceLT, Int.reduceLE]
   refine loop_next (k + 1) _ _ rfl (by omega) (by omega) ?_ ?_
   · (try simp only [bK1, bK2, bK3, bK4, bK5, bK6, bK7, bK8]); simp (maxSteps := 10000000) (disch := omega) only [ht, go_sem, ↓reduceIte, Nat.reduceEqDiff, Nat.reduceSub, Nat.reduceLeDiff, Nat.reduceAdd, Int.reduceEq, Int.reduceLT, Int.reduceLE]
   · (try simp only [bK1, bK2, bK3, bK4, bK5, bK6, bK7, bK8]); simp (maxSteps := 10000000) (disch := omega) only [go_sem, ↓reduceIte, Nat.reduceEqDiff, Nat.reduceSub, Nat.reduceLeDiff, Nat.reduceAdd, Int.reduceEq, Int.reduceLT, Int.reduceLE]
 · obtain rfl : k = L.length := by omega
   have e := List.take_length (l := L)
   (try simp only [bK1, bK2, bK3, bK4, bK5, bK6, bK7, bK8]); simp (maxSteps := 10000000) (disch := omega) only [stPackR, e, List.length_map, go_sem, ↓reduceIte, Nat.reduceEqDiff, Nat.reduceSub, Nat.reduceLeDiff, Nat.reduceAdd, Int.reduceEq, Int.reduceLT, Int.reduceLE]
set_option maxHeartbeats 4000000 in
theorem okPackLong {x : SV} {f : Bool} {es : List (List PV)} {L : List (List UInt8)} {o : List UInt8} {h d} (hx : lents h [x] = [.pv (.sl f 1 es)]) (hl : lendable [x] = true) (he : BsEq es (L ++ [o])) (hb : packLen L ≤ 300000) (hall : ∀ b ∈ L, b.length ≤ 65535) (ho : o.length = 65536) :
 FunOk Try.prog 24 [x] h d (.tup [.pv (.sl true 0 []), .pv (.i .i64 4)]) [] := by
 refine fun_scalar mixed fn24 (by simp) hl rfl fun F => ?_
 rw [hx]
 have hel := he.1
 have hLn : L.length ≤ 300000 := by
  have : ∀ L : List (List UInt8), L.length ≤ packLen L := fun L => by
   induction L with
   | nil => simp
   | cons f l ih => simp only [packLen, List.length_cons]; omega
  exact Nat.le_trans (this L) hb
 have hlM : (L ++ [o]).length = L.length + 1 := by simp
 (try simp only [bK1, bK2, bK3, bK4, bK5, bK6, bK7, bK8]); simp (maxSteps := 10000000) (disch := omega) only [ir24, hel, go_sem, ↓reduceIte, Nat.reduceEqDiff, Nat.reduceSub, Nat.reduceLeDiff, Nat.reduceAdd, Int.reduceEq, Int.reduceLT, Int.reduceLE]
 refine loop_ok mixed (stPack f 1 es (L ++ [o])) (fun k => k ≤ L.length) (fun k => L.length - k) 0 (by simp) (wk_ren 8 50 (by decide) rfl (weak_mk ?_ ?_)) fun k hk => ?_
 · (try simp only [bK1, bK2, bK3, bK4, bK5, bK6, bK7, bK8]); simp (maxSteps := 10000000) (disch := omega) only [go_sem, ↓reduceIte, Nat.reduceEqDiff, Nat.reduceSub, Nat.reduceLeDiff, Nat.reduceAdd, Int.reduceEq, Int.reduceLT, Int.reduceLE]
 · (try simp only [bK1, bK2, bK3, bK4, bK5, bK6, bK7, bK8]); simp (maxSteps := 10000000) (disch := omega) only [go_sem, ↓reduceIte, Nat.reduceEqDiff, Nat.reduceSub, Nat.reduceLeDiff, Nat.reduceAdd, Int.reduceEq, Int.reduceLT, Int.reduceLE]
   rfl
 by_cases hlt : k < L.length
 · have hltM : k < (L ++ [o]).length := by omega
   obtain ⟨f', z', hek, hz'⟩ := he.2 k hltM
   have hpt := packB_take hltM
   have hgL : (L ++ [o]).getD k [] = L.getD k [] := by simp [List.getD_eq_getElem?_getD, List.getElem?_append_left hlt]
   have htL : (L ++ [o]).take k = L.take k := by rw [List.take_append_of_le_length (by omega)]
   rw [hgL] at hek hpt hz'
   have hbk : (L.getD k []).length ≤ 65535 := by
    rw [List.getD_eq_getElem?_getD, List.getElem?_eq_getElem hlt]
    exact hall _ (List.getElem_mem hlt)
   have hpl := packLen_mem hlt
   have hpk := Nat.le_trans (packB_len (L.take k)) (packLen_take L k)
   rw [← htL] at hpk
   generalize L.getD k [] = b at *
   have hzz := nilOr hz'
   have hwn : IntKind.u8.wrap (b.length : Int) = (((UInt8.ofNat b.length).toNat : Nat) : Int) := wrap_u8_nat _
   by_cases hs : b.length < 255
   · rw [fieldB_short hs] at hpt
     (try simp only [bK1, bK2, bK3, bK4, bK5, bK6, bK7, bK8]); simp (maxSteps := 10000000) (disch := omega) only [stPack, hel, hek, ld_sl, bytesE_length, hzz, hwn, List.length_append, go_sem, ↓reduceIte, Nat.reduceEqDiff, Nat.reduceSub, Nat.reduceLeDiff, Nat.reduceAdd, Int.reduceEq, Int.reduceLT, Int.reduceLE]
     refine ⟨k + 1, by omega, by omega, wk_ren 38 50 (by decide) rfl (weak_mk ?_ ?_)⟩
     · (try simp only [bK1, bK2, bK3, bK4, bK5, bK6, bK7, bK8]); simp (maxSteps := 10000000) (disch := omega) only [go_sem, ↓reduceIte, Nat.reduceEqDiff, Nat.reduceSub, Nat.reduceLeDiff, Nat.reduceAdd, Int.reduceEq, Int.reduceLT, Int.reduceLE]
     · (try simp only [bK1, bK2, bK3, bK4, bK5, bK6, bK7, bK8]); simp (maxSteps := 10000000) (disch := omega) only [hpt, bytesE, List.map_append, List.map_cons, List.map_nil, go_sem, ↓reduceIte, Nat.reduceEqDiff, Nat.reduceSub, Nat.reduceLeDiff, Nat.reduceAdd, Int.reduceEq, Int.reduceLT, Int.reduceLE]
       simp
   · rw [fieldB_long hs] at hpt
     have e8 : ((2 : Int) ^ min (Int.toNat 8) 64) = 256 := rfl
     have hsh : ((b.length : Int).fdiv 256) = ((b.length / 256 : Nat) : Int) := by
      rw [Int.fdiv_eq_ediv_of_nonneg _ (by omega)]; omega
     have hwh := wrap_u8_shr b.length
     (try simp only [bK1, bK2, bK3, bK4, bK5, bK6, bK7, bK8]); simp (maxSteps := 10000000) (disch := omega) only [stPack, hel, hek, ld_sl, bytesE_length, hzz, e8, hsh, hwn, hwh, List.length_append, go_sem, ↓reduceIte, Nat.reduceEqDiff, Nat.reduceSub, Nat.reduceLeDiff, Nat.reduceAdd, Int.reduceEq, Int.reduceLT, Int.reduceLE]
     refine ⟨k + 1, by omega, by omega, wk_ren 38 50 (by decide) rfl (weak_mk ?_ ?_)⟩
     · (try simp only [bK1, bK2, bK3, bK4, bK5, bK6, bK7, bK8]); simp (maxSteps := 10000000) (disch := omega) only [go_sem, ↓reduceIte, Nat.reduceEqDiff, Nat.reduceSub, Nat.reduceLeDiff, Nat.reduceAdd, Int.reduceEq, Int.reduceLT, Int.reduceLE]
     · (try simp only [bK1, bK2, bK3, bK4, bK5, bK6, bK7, bK8]); simp (maxSteps := 10000000) (disch := omega) only [hpt, bytesE, List.map_append, List.map_cons, List.map_nil, go_sem, ↓reduceIte, Nat.reduceEqDiff, Nat.reduceSub, Nat.reduceLeDiff, Nat.reduceAdd, Int.reduceEq, Int.reduceLT, Int.reduceLE]
       simp
 · obtain rfl : k = L.length := by omega
   obtain ⟨f', z', hek, hz'⟩ := he.2 L.length (by omega)
   have hgo : (L ++ [o]).getD L.length [] = o := by simp [List.getD_eq_getElem?_getD]
   rw [hgo] at hek hz'
   have hzz := nilOr hz'
   (try simp only [bK1, bK2, bK3, bK4, bK5, bK6, bK7, bK8]); simp (maxSteps := 10000000) (disch := omega) only [stPack, hel, hek, ld_sl, bytesE_length, hzz, ho, List.length_append, go_sem, ↓reduceIte, Nat.reduceEqDiff, Nat.reduceSub, Nat.reduceLeDiff, Nat.reduceAdd, Int.reduceEq, Int.reduceLT, Int.reduceLE]
end Go.Proofs.Ytfkmlmckihmihaa.Fw
namespace Go.Proofs.Ytfkmlmckihmihaa.Fw
open Go.RowKit Go.Proofs
set_option maxHeartbeats 4000000 in
theorem lawPacks (A : List (List UInt8)) (lg : Bool) (hAL : A.length ≤ maxLen) (hAb : ∀ b ∈ A, b.length ≤ maxLen) {h d} :
 FunOk Try.prog 8 [.pv (.sl false 1 (A.map bE)), .pv (.b lg)] h d (.pv (.b true)) [] := by
 refine fun_pure mixed fn8 (by simp) rfl rfl fun F => ?_
 (try simp only [bK1, bK2, bK3, bK4, bK5, bK6, bK7, bK8]); simp (maxSteps := 10000000) (disch := omega) only [ir8, List.length_map, go_sem, ↓reduceIte, Nat.reduceEqDiff, Nat.reduceSub, Nat.reduceLeDiff, Nat.reduceAdd, Int.reduceEq, Int.reduceLT, Int.reduceLE]
 refine call_with livesC ?_
 (try simp only [bK1, bK2, bK3, bK4, bK5, bK6, bK7, bK8]); simp (maxSteps := 10000000) (disch := omega) only [go_sem, ↓reduceIte, Nat.reduceEqDiff, Nat.reduceSub, Nat.reduceLeDiff, Nat.reduceAdd, Int.reduceEq, Int.reduceLT, Int.reduceLE]
 refine call_with (okFew (f := false) (z := 1) (L := A) rfl rfl (bsEq_map A) (.inr rfl) hAL hAb) ?_
 by_cases hf : fewT A ≤ 3000
 case neg =>
  have e : fewB A = false := by simp [fewB]; omega
  (try simp only [bK1, bK2, bK3, bK4, bK5, bK6, bK7, bK8]); simp (maxSteps := 10000000) (disch := omega) only [e, go_sem, ↓reduceIte, Nat.reduceEqDiff, Nat.reduceSub, Nat.reduceLeDiff, Nat.reduceAdd, Int.reduceEq, Int.reduceLT, Int.reduceLE]
  refine call_with livesC ?_
  (try simp only [bK1, bK2, bK3, bK4, bK5, bK6, bK7, bK8]); simp (maxSteps := 10000000) (disch := omega) only [go_sem, ↓reduceIte, Nat.reduceEqDiff, Nat.reduceSub, Nat.reduceLeDiff, Nat.reduceAdd, Int.reduceEq, Int.reduceLT, Int.reduceLE]
 have eA : fewB A = true := by simp [fewB]; omega
 have hlA := few_len (L := A)
 have haA : ∀ b ∈ A, b.length ≤ 65535 := fun b hb => by have := few_all hf b hb; omega
 have hpA := few_pack hf
 have hqA := packB_len A
 cases lg
 case true =>
  (try simp only [bK1, bK2, bK3, bK4, bK5, bK6, bK7, bK8]); simp (maxSteps := 10000000) (disch := omega) only [eA, List.length_map, go_sem, ↓reduceIte, Nat.reduceEqDiff, Nat.reduceSub, Nat.reduceLeDiff, Nat.reduceAdd, Int.reduceEq, Int.reduceLT, Int.reduceLE]
  refine anyP_now ?_
  (try simp only [bK1, bK2, bK3, bK4, bK5, bK6, bK7, bK8]); simp (maxSteps := 10000000) (disch := omega) only [List.length_map, go_sem, ↓reduceIte, Nat.reduceEqDiff, Nat.reduceSub, Nat.reduceLeDiff, Nat.reduceAdd, Int.reduceEq, Int.reduceLT, Int.reduceLE]
  have ez : ∃ o : List UInt8, o.length = 65536 ∧ List.replicate (Int.toNat 65536) [PV.i IntKind.u8 0] = bytesE o :=
   ⟨List.replicate (Int.toNat 65536) 0, by rw [List.length_replicate]; rfl, by rw [bytesE, List.map_replicate]; rfl⟩
  obtain ⟨o, ho, ez⟩ := ez
  rw [ez]
  have hbs : BsEq (A.map bE ++ [[PV.sl false 1 (bytesE o)]]) (A ++ [o]) := by
   have := bsEq_map (A ++ [o]); rwa [List.map_append] at this
  refine call_with (okPackLong (f := false) (L := A) (o := o) rfl rfl hbs (by omega) haA ho) ?_
  (try simp only [bK1, bK2, bK3, bK4, bK5, bK6, bK7, bK8]); simp (maxSteps := 10000000) (disch := omega) only [go_sem, ↓reduceIte, Nat.reduceEqDiff, Nat.reduceSub, Nat.reduceLeDiff, Nat.reduceAdd, Int.reduceEq, Int.reduceLT, Int.reduceLE]
 (try simp only [bK1, bK2, bK3, bK4, bK5, bK6, bK7, bK8]); simp (maxSteps := 10000000) (disch := omega) only [eA, go_sem, ↓reduceIte, Nat.reduceEqDiff, Nat.reduceSub, Nat.reduceLeDiff, Nat.reduceAdd, Int.reduceEq, Int.reduceLT, Int.reduceLE]
 refine call_with (okPack (f := false) (z := 1) (L := A) rfl rfl (bsEq_map A) (.inr rfl) (by omega) haA) ?_
 (try simp only [bK1, bK2, bK3, bK4, bK5, bK6, bK7, bK8]); simp (maxSteps := 10000000) (disch := omega) only [go_sem, ↓reduceIte, Nat.reduceEqDiff, Nat.reduceSub, Nat.reduceLeDiff, Nat.reduceAdd, Int.reduceEq, Int.reduceLT, Int.reduceLE]
 refine call_with (okTexts (f := false) (z := 1) (L := A) rfl rfl (bsEq_map A) (.inr rfl) (by omega)) ?_
 (try simp only [bK1, bK2, bK3, bK4, bK5, bK6, bK7, bK8]); simp (maxSteps := 10000000) (disch := omega) only [go_sem, ↓reduceIte, Nat.reduceEqDiff, Nat.reduceSub, Nat.reduceLeDiff, Nat.reduceAdd, Int.reduceEq, Int.reduceLT, Int.reduceLE]
 refine call_with (okPackR (L := A) rfl rfl (by omega) (by omega) haA) ?_
 have hu := unpack_all A ((A.length : Nat) : Int) haA (by omega)
 (try simp only [bK1, bK2, bK3, bK4, bK5, bK6, bK7, bK8]); simp (maxSteps := 10000000) (disch := omega) only [bytesE_length, List.length_map, go_sem, ↓reduceIte, Nat.reduceEqDiff, Nat.reduceSub, Nat.reduceLeDiff, Nat.reduceAdd, Int.reduceEq, Int.reduceLT, Int.reduceLE]
 refine call_with (FunOk.frz (n := 36) (sz := 1) (es := bytesE (packB A)) rfl (by simp [tops, tn]) rfl (okUnpack (f := false) (z := 1) (b := packB A) (most := (A.length : Int)) (h := fun _ => none) (.inr rfl) (by omega))) ?_
 (try simp only [bK1, bK2, bK3, bK4, bK5, bK6, bK7, bK8]); simp (maxSteps := 10000000) (disch := omega) only [hu, go_sem, ↓reduceIte, Nat.reduceEqDiff, Nat.reduceSub, Nat.reduceLeDiff, Nat.reduceAdd, Int.reduceEq, Int.reduceLT, Int.reduceLE]
 refine call_with (okTexts (f := false) (z := 1) (L := A) rfl rfl (bsEq_map A) (.inr rfl) (by omega)) ?_
 (try simp only [bK1, bK2, bK3, bK4, bK5, bK6, bK7, bK8]); simp (maxSteps := 10000000) (disch := omega) only [go_sem, ↓reduceIte, Nat.reduceEqDiff, Nat.reduceSub, Nat.reduceLeDiff, Nat.reduceAdd, Int.reduceEq, Int.reduceLT, Int.reduceLE]
 refine call_with (okTexts (f := false) (z := 1) (L := A) rfl rfl (bsEq_map A) (.inr rfl) (by omega)) ?_
 (try simp only [bK1, bK2, bK3, bK4, bK5, bK6, bK7, bK8]); simp (maxSteps := 10000000) (disch := omega) only [List.length_map, go_sem, ↓reduceIte, Nat.reduceEqDiff, Nat.reduceSub, Nat.reduceLeDiff, Nat.reduceAdd, Int.reduceEq, Int.reduceLT, Int.reduceLE]
 refine call_with (okSameS (L := A) (M := A) rfl rfl (by omega) (by omega)) ?_
 (try simp only [bK1, bK2, bK3, bK4, bK5, bK6, bK7, bK8]); simp (maxSteps := 10000000) (disch := omega) only [go_sem, ↓reduceIte, Nat.reduceEqDiff, Nat.reduceSub, Nat.reduceLeDiff, Nat.reduceAdd, Int.reduceEq, Int.reduceLT, Int.reduceLE]
theorem holdsCodecPacks {c0 c1 : List PV} (g0 : GC (.sl (.sl (.int .u8))) c0) (g1 : GC .bool c1) {h d} :
 FunOk Try.prog 8 [toSV (.sl (.sl (.int .u8))) c0, toSV .bool c1] h d (.pv (.b true)) [] := by
 obtain ⟨es, rfl, h1, g0⟩ := GC_sl g0
 obtain ⟨A, rfl, hA⟩ := els_of (f := bE) GC_bE g0
 obtain ⟨lg, rfl⟩ := GC_bool g1
 exact lawPacks A lg (by simpa using h1) hA
end Go.Proofs.Ytfkmlmckihmihaa.Fw
