/- What the functions that the law BagCounts reaches compute. -/
import Derived.Test.YtfkmlmckihmihaaWalkBagCounts1
import Derived.OpenShut
import Derived.ShutString
import Derived.ChangeOld
import Derived.SizedLaws
import Derived.ChangeOld
import Derived.Lib.Bytealg
import Derived.OpenShut
import Derived.ShutString
import Derived.SizedLaws
set_option linter.unusedVariables false
set_option linter.unusedSimpArgs false
set_option linter.unusedSectionVars false
set_option maxRecDepth 100000
namespace Go.Proofs.Ytfkmlmckihmihaa.Fw
open Go.RowKit Go.Proofs
def canon (e : Evt) : Evt := { e with gone := ⟨false, 2, e.gone.l⟩, base := ⟨false, 2, e.base.l⟩ }
theorem check_canon (e : Evt) : checkB (canon e) = checkB e := by
 by_cases hB : BaseP e
 · by_cases hD : DepP e
   · have hB' : BaseP (canon e) := hB
     have hD' : DepP (canon e) := hD
     have hk : e.kind = 1 ∨ e.kind = 2 ∨ e.kind = 3 ∨ e.kind = 4 ∨ e.kind = 5 ∨ e.kind = 6 ∨ e.kind = 7 ∨ e.kind = 8 ∨ e.kind = 9 := by have := hB.2.2.2.2.2; omega
     rcases hk with k | k | k | k | k | k | k | k | k
     · rw [check_1 hB hD k, check_1 hB' hD' k]; rfl
     · rw [check_2 hB hD k, check_2 hB' hD' k]; rfl
     · rw [check_3 hB hD k, check_3 hB' hD' k]; rfl
     · rw [check_4 hB hD k, check_4 hB' hD' k]; rfl
     · rw [check_5 hB hD k, check_5 hB' hD' k]; rfl
     · rw [check_6 hB hD k, check_6 hB' hD' k]; rfl
     · rw [check_7 hB hD k, check_7 hB' hD' k]; rfl
     · rw [check_8 hB hD k, check_8 hB' hD' k]; rfl
     · rw [check_9 hB hD k, check_9 hB' hD' k]; rfl
   · rw [check_d hD, check_d (e := canon e) hD]
 · rw [check_b hB, check_b (e := canon e) hB]
def segE (e : Evt) : List SV := [.pv (.i .i64 e.rep), .pv (.i .u32 e.seq), .vec 8 (vE e.dep), .pv (.i .i64 e.kind), .pv (.i .i64 e.orep), .pv (.i .u32 e.oseq), .pv (.i .i64 e.drep), .pv (.i .u32 e.dseq), .pv (.s e.name), .pv e.gone.pv, .pv e.base.pv, .pv (.i .i64 e.off), .pv (.s e.data), .pv (.i .i64 e.ward)]
theorem seg_cells (e : Evt) : SV.cellsL? (segE e) = some (evE e) := rfl
set_option maxHeartbeats 8000000 in
theorem okRead_ok (e : Evt) (hc : checkB e = true) (he : ev e) {h d} : FunOk Try.prog 50 [.pv (.sl false 1 (bytesE (evB e)))] h d (.tup [.agg (segE (canon e)), .pv (.i .i64 0)]) [] := by
 refine fun_pure mixed fn50 (by simp) rfl rfl fun F => ?_
 have g := good_of_check hc
 obtain ⟨b1, b2, b3, b4, b5, b6, b7⟩ := g.base
 have hpk := fields_pack g
 have hlen := packB_len (fieldsE e)
 have hfl := fields_len g
 have hu : unpackG (evB e) [] 12 = (fieldsE e, 0) := unpack_all (fieldsE e) 12 (fun b hb => by have := hfl b hb; omega) (by simp [fieldsE])
 have hel : (evB e).length ≤ 3636 := by unfold evB; omega
 have hl12 : ((fieldsE e).map bE).length = 12 := rfl
 have f0 : ((fieldsE e).map bE)[0]? = some [.sl false 1 (bytesE (numB e.rep.toNat))] := rfl
 have f1 : ((fieldsE e).map bE)[Int.toNat 1]? = some [.sl false 1 (bytesE (numB e.seq))] := rfl
 have f2 : ((fieldsE e).map bE)[Int.toNat 2]? = some [.sl false 1 (bytesE (shrinkB e.dep (fun _ => 0)))] := rfl
 have f3 : ((fieldsE e).map bE)[Int.toNat 3]? = some [.sl false 1 (bytesE (numB e.kind.toNat))] := rfl
 have f4 : ((fieldsE e).map bE)[Int.toNat 4]? = some [.sl false 1 (bytesE (idB (e.orep, e.oseq)))] := rfl
 have f5 : ((fieldsE e).map bE)[Int.toNat 5]? = some [.sl false 1 (bytesE (idB (e.drep, e.dseq)))] := rfl
 have f6 : ((fieldsE e).map bE)[Int.toNat 6]? = some [.sl false 1 (bytesE e.name)] := rfl
 have f7 : ((fieldsE e).map bE)[Int.toNat 7]? = some [.sl false 1 (bytesE (idsW e.gone.l))] := rfl
 have f8 : ((fieldsE e).map bE)[Int.toNat 8]? = some [.sl false 1 (bytesE (idsW e.base.l))] := rfl
 have f9 : ((fieldsE e).map bE)[Int.toNat 9]? = some [.sl false 1 (bytesE (numB e.off.toNat))] := rfl
 have f10 : ((fieldsE e).map bE)[Int.toNat 10]? = some [.sl false 1 (bytesE e.data)] := rfl
 have f11 : ((fieldsE e).map bE)[Int.toNat 11]? = some [.sl false 1 (bytesE (numB e.ward.toNat))] := rfl
 have q3 := hfl (numB e.kind.toNat) (by simp [fieldsE])
 have q9 := hfl (numB e.off.toNat) (by simp [fieldsE])
 have q11 := hfl (numB e.ward.toNat) (by simp [fieldsE])
 have q0 := hfl (numB e.rep.toNat) (by simp [fieldsE])
 have q1 := hfl (numB e.seq) (by simp [fieldsE])
 have q4 := idB_len _ g.obj
 have q5 := idB_len _ g.dir
 have s3 : smallB (numB e.kind.toNat) = e.kind := by rw [small_back (by omega)]; omega
 have s9 : smallB (numB e.off.toNat) = e.off := by have := g.off; rw [small_back (by omega)]; omega
 have s11 : smallB (numB e.ward.toNat) = e.ward := by have := g.ward; rw [small_back (by omega)]; omega
 have s0 : smallB (numB e.rep.toNat) = e.rep := by rw [small_back (by omega)]; omega
 have s1 : smallB (numB e.seq) = (e.seq : Int) := small_back (by omega)
 have i4 : rdID (idB (e.orep, e.oseq)) = (e.orep, e.oseq) := id_back g.obj
 have i5 : rdID (idB (e.drep, e.dseq)) = (e.drep, e.dseq) := id_back g.dir
 (try simp only [bK1, bK2, bK3, bK4, bK5, bK6, bK7, bK8]); simp (maxSteps := 10000000) (disch := omega) only [ir50, go_sem, ↓reduceIte, Nat.reduceEqDiff, Nat.reduceSub, Nat.reduceLeDiff, Nat.reduceAdd, Int.reduceEq, Int.reduceLT, Int.reduceLE]
 refine call_with (okUnpack (f := false) (z := 1) (b := evB e) (most := 12) (.inr rfl) (by omega)) ?_
 rw [hu]
 generalize hE : (fieldsE e).map bE = E at *
 (try simp only [bK1, bK2, bK3, bK4, bK5, bK6, bK7, bK8]); simp (maxSteps := 10000000) (disch := omega) only [hl12, f3, f4, f5, f6, f9, f10, f11, load_c0, go_sem, ↓reduceIte, Nat.reduceEqDiff, Nat.reduceSub, Nat.reduceLeDiff, Nat.reduceAdd, Int.reduceEq, Int.reduceLT, Int.reduceLE]
 refine call_with (okSmall (f := false) (z := 1) (b := numB e.kind.toNat) (.inr rfl) (by omega)) ?_
 (try simp only [bK1, bK2, bK3, bK4, bK5, bK6, bK7, bK8]); simp (maxSteps := 10000000) (disch := omega) only [hl12, f3, f4, f5, f6, f9, f10, f11, load_c0, s3, go_sem, ↓reduceIte, Nat.reduceEqDiff, Nat.reduceSub, Nat.reduceLeDiff, Nat.reduceAdd, Int.reduceEq, Int.reduceLT, Int.reduceLE]
 refine call_with (okReadID (f := false) (z := 1) (b := idB (e.orep, e.oseq)) (.inr rfl) (by omega)) ?_
 (try simp only [bK1, bK2, bK3, bK4, bK5, bK6, bK7, bK8]); simp (maxSteps := 10000000) (disch := omega) only [hl12, f3, f4, f5, f6, f9, f10, f11, load_c0, i4, go_sem, ↓reduceIte, Nat.reduceEqDiff, Nat.reduceSub, Nat.reduceLeDiff, Nat.reduceAdd, Int.reduceEq, Int.reduceLT, Int.reduceLE]
 refine call_with (okReadID (f := false) (z := 1) (b := idB (e.drep, e.dseq)) (.inr rfl) (by omega)) ?_
 (try simp only [bK1, bK2, bK3, bK4, bK5, bK6, bK7, bK8]); simp (maxSteps := 10000000) (disch := omega) only [hl12, f3, f4, f5, f6, f9, f10, f11, load_c0, i5, go_sem, ↓reduceIte, Nat.reduceEqDiff, Nat.reduceSub, Nat.reduceLeDiff, Nat.reduceAdd, Int.reduceEq, Int.reduceLT, Int.reduceLE]
 refine call_with (okSmall (f := false) (z := 1) (b := numB e.off.toNat) (.inr rfl) (by omega)) ?_
 (try simp only [bK1, bK2, bK3, bK4, bK5, bK6, bK7, bK8]); simp (maxSteps := 10000000) (disch := omega) only [hl12, f3, f4, f5, f6, f9, f10, f11, load_c0, s9, go_sem, ↓reduceIte, Nat.reduceEqDiff, Nat.reduceSub, Nat.reduceLeDiff, Nat.reduceAdd, Int.reduceEq, Int.reduceLT, Int.reduceLE]
 refine call_with (okSmall (f := false) (z := 1) (b := numB e.ward.toNat) (.inr rfl) (by omega)) ?_
 (try simp only [bK1, bK2, bK3, bK4, bK5, bK6, bK7, bK8]); simp (maxSteps := 10000000) (disch := omega) only [hl12, f0, f1, f2, f7, f8, load_c0, s11, go_sem, ↓reduceIte, Nat.reduceEqDiff, Nat.reduceSub, Nat.reduceLeDiff, Nat.reduceAdd, Int.reduceEq, Int.reduceLT, Int.reduceLE]
 refine call_with (okSmall (f := false) (z := 1) (b := numB e.rep.toNat) (.inr rfl) (by omega)) ?_
 (try simp only [bK1, bK2, bK3, bK4, bK5, bK6, bK7, bK8]); simp (maxSteps := 10000000) (disch := omega) only [hl12, f0, f1, f2, f7, f8, load_c0, s0, go_sem, ↓reduceIte, Nat.reduceEqDiff, Nat.reduceSub, Nat.reduceLeDiff, Nat.reduceAdd, Int.reduceEq, Int.reduceLT, Int.reduceLE]
 refine call_with (okSmall (f := false) (z := 1) (b := numB e.seq) (.inr rfl) (by omega)) ?_
 (try simp only [bK1, bK2, bK3, bK4, bK5, bK6, bK7, bK8]); simp (maxSteps := 10000000) (disch := omega) only [hl12, f0, f1, f2, f7, f8, load_c0, s1, go_sem, ↓reduceIte, Nat.reduceEqDiff, Nat.reduceSub, Nat.reduceLeDiff, Nat.reduceAdd, Int.reduceEq, Int.reduceLT, Int.reduceLE]
 have hmx : max (0 : Int) (e.seq : Int) = (e.seq : Int) := by omega
 have hgs := growB_shrink e.dep (fun _ => 0) (fun i hi => by have := g.dep i hi; omega) (by simp)
 have hge : vE (growB (shrinkB e.dep fun _ => 0) fun _ => 0).1 = vE e.dep := vE_ext hgs.2
 have hs2 := byTo_len e.dep (fun _ => 0) (fun i hi => by have := g.dep i hi; omega) (by simp) 8 (by omega)
 have hsl : (shrinkB e.dep (fun _ => 0)).length ≤ 42 := by simp only [shrinkB, List.length_cons]; omega
 refine call_with (okGrow (l := shrinkB e.dep fun _ => 0) (fun _ => 0) (by simp) (by omega) rfl rfl (.inr rfl)) ?_
 rw [hge, hgs.1]
 (try simp only [bK1, bK2, bK3, bK4, bK5, bK6, bK7, bK8]); simp (maxSteps := 10000000) (disch := omega) only [hl12, f7, f8, load_c0, hmx, go_sem, ↓reduceIte, Nat.reduceEqDiff, Nat.reduceSub, Nat.reduceLeDiff, Nat.reduceAdd, Int.reduceEq, Int.reduceLT, Int.reduceLE]
 refine call_with (okReadIDs_ok g.gone.2 g.gone.1) ?_
 (try simp only [bK1, bK2, bK3, bK4, bK5, bK6, bK7, bK8]); simp (maxSteps := 10000000) (disch := omega) only [hl12, f7, f8, load_c0, hmx, go_sem, ↓reduceIte, Nat.reduceEqDiff, Nat.reduceSub, Nat.reduceLeDiff, Nat.reduceAdd, Int.reduceEq, Int.reduceLT, Int.reduceLE]
 refine call_with (okReadIDs_ok g.basel.2 g.basel.1) ?_
 (try simp only [bK1, bK2, bK3, bK4, bK5, bK6, bK7, bK8]); simp (maxSteps := 10000000) (disch := omega) only [hmx, go_sem, ↓reduceIte, Nat.reduceEqDiff, Nat.reduceSub, Nat.reduceLeDiff, Nat.reduceAdd, Int.reduceEq, Int.reduceLT, Int.reduceLE]
 have hev : ev (canon e) := ⟨.inr rfl, .inr rfl, he.2.2.1, he.2.2.2.1, he.2.2.2.2⟩
 refine call_with ((okWrite (canon e) hev (by rw [check_canon]; exact hc)).imp ⟨imp_agg (by rfl) (evE_len (canon e)), trivial⟩ (by simp [tops, tn])) ?_
 have hcb : evB (canon e) = evB e := rfl
 rw [hcb]
 have hself : decide (evB e = evB e) = true := by simp
 (try simp only [bK1, bK2, bK3, bK4, bK5, bK6, bK7, bK8]); simp (maxSteps := 10000000) (disch := omega) only [go_sem, ↓reduceIte, Nat.reduceEqDiff, Nat.reduceSub, Nat.reduceLeDiff, Nat.reduceAdd, Int.reduceEq, Int.reduceLT, Int.reduceLE]
 refine call_with (okEqB (f := false) (g := false) (y := 1) (z := 1) (a := evB e) (b := evB e) rfl rfl (.inr rfl) (.inr rfl) (by omega) (by omega)) ?_
 (try simp only [bK1, bK2, bK3, bK4, bK5, bK6, bK7, bK8]); simp (maxSteps := 10000000) (disch := omega) only [hself, segE, canon, go_sem, ↓reduceIte, Nat.reduceEqDiff, Nat.reduceSub, Nat.reduceLeDiff, Nat.reduceAdd, Int.reduceEq, Int.reduceLT, Int.reduceLE]
end Go.Proofs.Ytfkmlmckihmihaa.Fw
namespace Go.Proofs.Ytfkmlmckihmihaa.Fw
open Go.RowKit Go.Proofs
end Go.Proofs.Ytfkmlmckihmihaa.Fw
namespace Go.Proofs.Ytfkmlmckihmihaa.Fw
open Go.RowKit Go.Proofs
theorem kL_seg (n : Nat) (e : Evt) : SV.killL n (segE e) = segE e := rfl
theorem wL_seg (e : Evt) : SV.widthL (segE e) = 21 := rfl
theorem fbL_seg (e : Evt) : SV.flatBL (segE e) = true := rfl
theorem frL_seg (n : Nat) (v : PV) (e : Evt) : SV.frzL n v (segE e) = segE e := rfl
attribute [go_sem] kL_seg wL_seg fbL_seg frL_seg
theorem canon_ev {e : Evt} (h : ev e) : ev (canon e) := ⟨.inr rfl, .inr rfl, h.2.2.1, h.2.2.2.1, h.2.2.2.2⟩
abbrev shEvt : Sh := .st [shId, .arr 8 (.int .u32), .int .i64, shId, shId, .str, .sl shId, .sl shId, .int .i64, .str, .int .i64]
theorem GC_evt {cs : List PV} (h : GC shEvt cs) : ∃ e : Evt, cs = evE e ∧ (∀ i, i < 8 → e.dep i < 4294967296) ∧ e.gone.ok ∧ e.base.ok ∧ e.name.length ≤ maxLen ∧ e.data.length ≤ maxLen := by
 simp only [GC] at h
 simp only [GCL] at h
 obtain ⟨c0, r0, rfl, g0, c1, r1, rfl, g1, c2, r2, rfl, ⟨n2, rfl, w2⟩, c3, r3, rfl, g3, c4, r4, rfl, g4, c5, r5, rfl, ⟨s5, rfl, w5⟩, c6, r6, rfl, g6, c7, r7, rfl, g7, c8, r8, rfl, ⟨n8, rfl, w8⟩, c9, r9, rfl, ⟨s9, rfl, w9⟩, c10, r10, rfl, ⟨n10, rfl, w10⟩, rfl⟩ := h
 obtain ⟨b0, rfl, hb0⟩ := GC_id (by simp only [GC]; exact g0)
 obtain ⟨a, rfl, ha⟩ := GC_vE (by simp only [GC]; exact g1)
 obtain ⟨b3, rfl, hb3⟩ := GC_id (by simp only [GC]; exact g3)
 obtain ⟨b4, rfl, hb4⟩ := GC_id (by simp only [GC]; exact g4)
 obtain ⟨e6, rfl, l6, g6⟩ := GC_sl (s := shId) (by simp only [GC]; exact g6)
 obtain ⟨e7, rfl, l7, g7⟩ := GC_sl (s := shId) (by simp only [GC]; exact g7)
 obtain ⟨m6, rfl, _⟩ := els_of (f := idE) GC_id g6
 obtain ⟨m7, rfl, _⟩ := els_of (f := idE) GC_id g7
 exact ⟨⟨b0.1, b0.2, a, n2, b3.1, b3.2, b4.1, b4.2, s5, ⟨false, 2, m6⟩, ⟨false, 2, m7⟩, n8, s9, n10⟩, by simp [evE, idE, SlI.pv]; rfl, ha, .inr rfl, .inr rfl, w5, w9⟩
end Go.Proofs.Ytfkmlmckihmihaa.Fw
namespace Go.Proofs.Ytfkmlmckihmihaa.Fw
open Go.RowKit Go.Proofs
end Go.Proofs.Ytfkmlmckihmihaa.Fw
namespace Go.Proofs.Ytfkmlmckihmihaa.Fw
open Go.RowKit Go.Proofs
structure Msg where
 k : Int
 fr : Int
 to : Int
 kn : Vc
 tb : Nat → Vc
 f : Bool
 z : Nat
 evs : List Evt
def msgE (m : Msg) : List PV := [.i .i64 m.k, .i .i64 m.fr, .i .i64 m.to] ++ vE m.kn ++ tE m.tb ++ [.sl m.f m.z (m.evs.map evE)]
def segM (m : Msg) : List SV := [.pv (.i .i64 m.k), .pv (.i .i64 m.fr), .pv (.i .i64 m.to), .vec 8 (vE m.kn), .vec 64 (tE m.tb), .pv (.sl m.f m.z (m.evs.map evE))]
theorem msgE_len (m : Msg) : (msgE m).length = 76 := by simp [msgE, vE, tE, arrF]
theorem segM_cells (m : Msg) : SV.cellsL? (segM m) = some (msgE m) := rfl
theorem ld_ms0 (m : Msg) (K : KK) : LoadK (some (msgE m)) 0 1 false K = K (.pv (.i .i64 m.k)) [] := by
 simp only [LoadK, ldX, eq_iff_iff]
 exact ⟨fun h => h.2.2, fun h => ⟨by simp [msgE, vE, tE, arrF], .inr trivial, h⟩⟩
theorem ld_ms1 (m : Msg) (K : KK) : LoadK (some (msgE m)) 1 1 false K = K (.pv (.i .i64 m.fr)) [] := by
 simp only [LoadK, ldX, eq_iff_iff]
 exact ⟨fun h => h.2.2, fun h => ⟨by simp [msgE, vE, tE, arrF], .inr trivial, h⟩⟩
theorem ld_ms2 (m : Msg) (K : KK) : LoadK (some (msgE m)) 2 1 false K = K (.pv (.i .i64 m.to)) [] := by
 simp only [LoadK, ldX, eq_iff_iff]
 exact ⟨fun h => h.2.2, fun h => ⟨by simp [msgE, vE, tE, arrF], .inr trivial, h⟩⟩
theorem ld_ms75 (m : Msg) (K : KK) : LoadK (some (msgE m)) 75 1 false K = K (.pv (.sl m.f m.z (m.evs.map evE))) [] := by
 simp only [LoadK, ldX, eq_iff_iff]
 exact ⟨fun h => h.2.2, fun h => ⟨by simp [msgE, vE, tE, arrF], .inr trivial, h⟩⟩
theorem ld_msK (m : Msg) (K : KK) : LoadK (some (msgE m)) 3 8 true K = K (.vec 8 (vE m.kn)) [] := by
 simp only [LoadK, ldX, eq_iff_iff]
 exact ⟨fun h => h.2.2, fun h => ⟨by simp [msgE, vE, tE, arrF], .inl trivial, h⟩⟩
theorem ld_msT (m : Msg) (K : KK) : LoadK (some (msgE m)) 11 64 true K = K (.vec 64 (tE m.tb)) [] := by
 simp only [LoadK, ldX, eq_iff_iff]
 exact ⟨fun h => h.2.2, fun h => ⟨by simp [msgE, vE, tE, arrF], .inl trivial, h⟩⟩
attribute [go_sem] ld_ms0 ld_ms1 ld_ms2 ld_ms75 ld_msK ld_msT msgE_len
theorem kL_sgM (n : Nat) (m : Msg) : SV.killL n (segM m) = segM m := rfl
theorem wL_sgM (m : Msg) : SV.widthL (segM m) = 76 := rfl
theorem fbL_sgM (m : Msg) : SV.flatBL (segM m) = true := rfl
theorem frL_sgM (n : Nat) (v : PV) (m : Msg) : SV.frzL n v (segM m) = segM m := rfl
attribute [go_sem] kL_sgM wL_sgM fbL_sgM frL_sgM
def mv (m : Msg) : Prop := (m.evs = [] ∨ m.z = 21) ∧ m.evs.length ≤ 1000 ∧ (∀ e ∈ m.evs, ev e ∧ ∀ i, i < 8 → e.dep i < 4294967296) ∧ (∀ i, i < 8 → m.kn i < 4294967296) ∧ ∀ i, i < 8 → ∀ j, j < 8 → m.tb i j < 4294967296
def HeadM (m : Msg) : Prop := (m.k = 1 ∨ m.k = 2) ∧ (1 ≤ m.fr ∧ m.fr ≤ 8) ∧ (1 ≤ m.to ∧ m.to ≤ 8) ∧ m.fr ≠ m.to ∧ m.evs.length ≤ 8 ∧ (m.k = 1 → m.evs.length = 0)
noncomputable def checkM (m : Msg) : Bool := open Classical in decide (HeadM m) && m.evs.all checkB
theorem checkM_h {m : Msg} (h : ¬ HeadM m) : checkM m = false := by simp [checkM, h]
theorem checkM_e {m : Msg} (h : HeadM m) : checkM m = m.evs.all checkB := by simp [checkM, h]
def repB (n : Int) : Bool := decide (1 ≤ n ∧ n ≤ 8)
theorem okRepM (n : Int) {h d} : FunOk Try.prog 54 [.pv (.i .i64 n)] h d (.pv (.b (repB n))) [] := by
 refine fun_pure mixed fn54 (by simp) rfl rfl fun F => ?_
 by_cases h1 : 1 ≤ n
 · have e : repB n = decide (n ≤ 8) := by simp [repB, h1]
   (try simp only [bK1, bK2, bK3, bK4, bK5, bK6, bK7, bK8]); simp (maxSteps := 10000000) (disch := omega) only [ir54, h1, e, go_sem, ↓reduceIte, Nat.reduceEqDiff, Nat.reduceSub, Nat.reduceLeDiff, Nat.reduceAdd, Int.reduceEq, Int.reduceLT, Int.reduceLE]
 · have e : repB n = false := by simp [repB, h1]
   (try simp only [bK1, bK2, bK3, bK4, bK5, bK6, bK7, bK8]); simp (maxSteps := 10000000) (disch := omega) only [ir54, h1, e, go_sem, ↓reduceIte, Nat.reduceEqDiff, Nat.reduceSub, Nat.reduceLeDiff, Nat.reduceAdd, Int.reduceEq, Int.reduceLT, Int.reduceLE]
theorem okBadM (e : Evt) (he : ev e) {h d} : FunOk Try.prog 56 [.vec 21 (evE e)] h d (.pv (.b (!checkB e))) [] := by
 refine fun_pure mixed fn56 (by simp) rfl rfl fun F => ?_
 (try simp only [bK1, bK2, bK3, bK4, bK5, bK6, bK7, bK8]); simp (maxSteps := 10000000) (disch := omega) only [ir56, go_sem, ↓reduceIte, Nat.reduceEqDiff, Nat.reduceSub, Nat.reduceLeDiff, Nat.reduceAdd, Int.reduceEq, Int.reduceLT, Int.reduceLE]
 refine call_with (okCheck e he) ?_
 (try simp only [bK1, bK2, bK3, bK4, bK5, bK6, bK7, bK8]); simp (maxSteps := 10000000) (disch := omega) only [go_sem, ↓reduceIte, Nat.reduceEqDiff, Nat.reduceSub, Nat.reduceLeDiff, Nat.reduceAdd, Int.reduceEq, Int.reduceLT, Int.reduceLE]
def stIdxM (f : Bool) (z : Nat) (l : List Evt) (k : Nat) : FS := mk [(8, .pv (.i .i64 k)), (7, .pv (.i .i64 l.length)), (0, .pv (.sl f z (l.map evE))), (1, .fn (.func 56) [])] []
theorem okIndexM {f : Bool} {z : Nat} {l : List Evt} (hz : l = [] ∨ z = 21) (hl : ∀ e ∈ l, ev e) (hn : l.length ≤ 1000) :
 ∃ n : Int, (0 ≤ n ↔ l.all checkB = false) ∧ ∀ h d, FunOk Try.prog 68 [.pv (.sl f z (l.map evE)), .fn (.func 56) []] h d (.pv (.i .i64 n)) [] := by
 refine ⟨if l.findIdx (fun e => !checkB e) < l.length then (l.findIdx (fun e => !checkB e) : Int) else -1, ?_, ?_⟩
 · by_cases hi : l.findIdx (fun e => !checkB e) < l.length
   · rw [if_pos hi]
     obtain ⟨x, hx, hp⟩ := List.findIdx_lt_length.1 hi
     refine ⟨fun _ => ?_, fun _ => by omega⟩
     rw [List.all_eq_false]
     exact ⟨x, hx, by simpa using hp⟩
   · rw [if_neg hi]
     refine ⟨fun h => by omega, fun h => ?_⟩
     rw [List.all_eq_false] at h
     obtain ⟨x, hx, hp⟩ := h
     exact absurd (List.findIdx_lt_length.2 ⟨x, hx, by simpa using hp⟩) hi
 intro h d
 refine fun_pure mixed fn68 (by simp) rfl rfl fun F => ?_
 (try simp only [bK1, bK2, bK3, bK4, bK5, bK6, bK7, bK8]); simp (maxSteps := 10000000) (disch := omega) only [ir68, List.length_map, go_sem, ↓reduceIte, Nat.reduceEqDiff, Nat.reduceSub, Nat.reduceLeDiff, Nat.reduceAdd, Int.reduceEq, Int.reduceLT, Int.reduceLE]
 refine loop_ok mixed (stIdxM f z l) (fun k => k ≤ l.length ∧ ∀ j, (hj : j < l.length) → j < k → checkB l[j] = true) (fun k => l.length - k) 0 (by simp) (weak_mk ?_ ?_) fun k hk => ?_
 · (try simp only [bK1, bK2, bK3, bK4, bK5, bK6, bK7, bK8]); simp (maxSteps := 10000000) (disch := omega) only [go_sem, ↓reduceIte, Nat.reduceEqDiff, Nat.reduceSub, Nat.reduceLeDiff, Nat.reduceAdd, Int.reduceEq, Int.reduceLT, Int.reduceLE]
 · (try simp only [bK1, bK2, bK3, bK4, bK5, bK6, bK7, bK8]); simp (maxSteps := 10000000) (disch := omega) only [go_sem, ↓reduceIte, Nat.reduceEqDiff, Nat.reduceSub, Nat.reduceLeDiff, Nat.reduceAdd, Int.reduceEq, Int.reduceLT, Int.reduceLE]
 obtain ⟨hk1, hk2⟩ := hk
 by_cases hlt : k < l.length
 · have hz2 : z = 21 := hz.resolve_left fun e => by subst e; simp at hlt
   subst hz2
   have he : (l.map evE)[k]? = some (evE l[k]) := by simp [hlt]
   have hv := evE_len l[k]
   (try simp only [bK1, bK2, bK3, bK4, bK5, bK6, bK7, bK8]); simp (maxSteps := 10000000) (disch := omega) only [stIdxM, List.length_map, he, ld_ev, go_sem, ↓reduceIte, Nat.reduceEqDiff, Nat.reduceSub, Nat.reduceLeDiff, Nat.reduceAdd, Int.reduceEq, Int.reduceLT, Int.reduceLE]
   refine call_with (okBadM l[k] (hl _ (List.getElem_mem hlt))) ?_
   by_cases hp : checkB l[k] = true
   · (try simp only [bK1, bK2, bK3, bK4, bK5, bK6, bK7, bK8]); simp (maxSteps := 10000000) (disch := omega) only [hp, go_sem, ↓reduceIte, Nat.reduceEqDiff, Nat.reduceSub, Nat.reduceLeDiff, Nat.reduceAdd, Int.reduceEq, Int.reduceLT, Int.reduceLE]
     refine loop_next (k + 1) _ _ rfl ⟨by omega, fun j hj hjk => ?_⟩ (by omega) ?_ ?_
     · by_cases e : j = k
       · subst e; exact hp
       · exact hk2 j hj (by omega)
     · (try simp only [bK1, bK2, bK3, bK4, bK5, bK6, bK7, bK8]); simp (maxSteps := 10000000) (disch := omega) only [go_sem, ↓reduceIte, Nat.reduceEqDiff, Nat.reduceSub, Nat.reduceLeDiff, Nat.reduceAdd, Int.reduceEq, Int.reduceLT, Int.reduceLE]
     · (try simp only [bK1, bK2, bK3, bK4, bK5, bK6, bK7, bK8]); simp (maxSteps := 10000000) (disch := omega) only [go_sem, ↓reduceIte, Nat.reduceEqDiff, Nat.reduceSub, Nat.reduceLeDiff, Nat.reduceAdd, Int.reduceEq, Int.reduceLT, Int.reduceLE]
   · have hp' : checkB l[k] = false := by simpa using hp
     have e : l.findIdx (fun e => !checkB e) = k := (List.findIdx_eq hlt).2 ⟨by simp [hp'], fun j hj => by simp [hk2 j (by omega) hj]⟩
     (try simp only [bK1, bK2, bK3, bK4, bK5, bK6, bK7, bK8]); simp (maxSteps := 10000000) (disch := omega) only [hp', e, hlt, go_sem, ↓reduceIte, Nat.reduceEqDiff, Nat.reduceSub, Nat.reduceLeDiff, Nat.reduceAdd, Int.reduceEq, Int.reduceLT, Int.reduceLE]
 · obtain rfl : k = l.length := by omega
   have e : l.findIdx (fun e => !checkB e) = l.length := List.findIdx_eq_length.2 fun x hx => by
    obtain ⟨j, hj, rfl⟩ := List.getElem_of_mem hx
    simp [hk2 j hj hj]
   (try simp only [bK1, bK2, bK3, bK4, bK5, bK6, bK7, bK8]); simp (maxSteps := 10000000) (disch := omega) only [stIdxM, e, hlt, go_sem, ↓reduceIte, Nat.reduceEqDiff, Nat.reduceSub, Nat.reduceLeDiff, Nat.reduceAdd, Int.reduceEq, Int.reduceLT, Int.reduceLE]
theorem okContM {f : Bool} {z : Nat} {l : List Evt} (hz : l = [] ∨ z = 21) (hl : ∀ e ∈ l, ev e) (hn : l.length ≤ 1000) {h d} :
 FunOk Try.prog 55 [.pv (.sl f z (l.map evE)), .fn (.func 56) []] h d (.pv (.b (!l.all checkB))) [] := by
 refine fun_pure mixed fn55 (by simp) rfl rfl fun F => ?_
 (try simp only [bK1, bK2, bK3, bK4, bK5, bK6, bK7, bK8]); simp (maxSteps := 10000000) (disch := omega) only [ir55, go_sem, ↓reduceIte, Nat.reduceEqDiff, Nat.reduceSub, Nat.reduceLeDiff, Nat.reduceAdd, Int.reduceEq, Int.reduceLT, Int.reduceLE]
 obtain ⟨n, hn', hc⟩ := okIndexM (f := f) (z := z) hz hl hn
 refine call_with (hc _ _) ?_
 cases ha : l.all checkB
 · have h0 : 0 ≤ n := hn'.2 ha
   (try simp only [bK1, bK2, bK3, bK4, bK5, bK6, bK7, bK8]); simp (maxSteps := 10000000) (disch := omega) only [h0, go_sem, ↓reduceIte, Nat.reduceEqDiff, Nat.reduceSub, Nat.reduceLeDiff, Nat.reduceAdd, Int.reduceEq, Int.reduceLT, Int.reduceLE]
 · have h0 : ¬ 0 ≤ n := fun h => by rw [hn'.1 h] at ha; cases ha
   (try simp only [bK1, bK2, bK3, bK4, bK5, bK6, bK7, bK8]); simp (maxSteps := 10000000) (disch := omega) only [h0, go_sem, ↓reduceIte, Nat.reduceEqDiff, Nat.reduceSub, Nat.reduceLeDiff, Nat.reduceAdd, Int.reduceEq, Int.reduceLT, Int.reduceLE]
set_option maxHeartbeats 8000000 in
theorem okCheckM (m : Msg) (hm : mv m) {h d} : FunOk Try.prog 44 [.vec 76 (msgE m)] h d (.pv (.b (checkM m))) [] := by
 refine fun_pure mixed fn44 (by simp) rfl rfl fun F => ?_
 obtain ⟨h1, h2, h3, h4, h5⟩ := hm
 by_cases k1 : m.k = 1 ∨ m.k = 2
 rotate_left
 · have e := checkM_h (m := m) fun h => k1 h.1
   have n1 : ¬ m.k = 1 := fun h => k1 (.inl h)
   have n2 : ¬ m.k = 2 := fun h => k1 (.inr h)
   (try simp only [bK1, bK2, bK3, bK4, bK5, bK6, bK7, bK8]); simp (maxSteps := 10000000) (disch := omega) only [ir44, List.length_map, n1, n2, e, go_sem, ↓reduceIte, Nat.reduceEqDiff, Nat.reduceSub, Nat.reduceLeDiff, Nat.reduceAdd, Int.reduceEq, Int.reduceLT, Int.reduceLE]
 rcases k1 with hk | hk
 ·
  (try simp only [bK1, bK2, bK3, bK4, bK5, bK6, bK7, bK8]); simp (maxSteps := 10000000) (disch := omega) only [ir44, List.length_map, hk, go_sem, ↓reduceIte, Nat.reduceEqDiff, Nat.reduceSub, Nat.reduceLeDiff, Nat.reduceAdd, Int.reduceEq, Int.reduceLT, Int.reduceLE]
  refine call_with (okRepM m.fr) ?_
  by_cases r1 : 1 ≤ m.fr ∧ m.fr ≤ 8
  rotate_left
  · have e := checkM_h (m := m) fun h => r1 h.2.1
    have er : repB m.fr = false := by simp only [repB, r1, decide_false]
    (try simp only [bK1, bK2, bK3, bK4, bK5, bK6, bK7, bK8]); simp (maxSteps := 10000000) (disch := omega) only [er, e, go_sem, ↓reduceIte, Nat.reduceEqDiff, Nat.reduceSub, Nat.reduceLeDiff, Nat.reduceAdd, Int.reduceEq, Int.reduceLT, Int.reduceLE]
  have er : repB m.fr = true := by simp only [repB, r1, and_self, decide_true]
  (try simp only [bK1, bK2, bK3, bK4, bK5, bK6, bK7, bK8]); simp (maxSteps := 10000000) (disch := omega) only [er, go_sem, ↓reduceIte, Nat.reduceEqDiff, Nat.reduceSub, Nat.reduceLeDiff, Nat.reduceAdd, Int.reduceEq, Int.reduceLT, Int.reduceLE]
  refine call_with (okRepM m.to) ?_
  by_cases r2 : 1 ≤ m.to ∧ m.to ≤ 8
  rotate_left
  · have e := checkM_h (m := m) fun h => r2 h.2.2.1
    have er : repB m.to = false := by simp only [repB, r2, decide_false]
    (try simp only [bK1, bK2, bK3, bK4, bK5, bK6, bK7, bK8]); simp (maxSteps := 10000000) (disch := omega) only [er, e, go_sem, ↓reduceIte, Nat.reduceEqDiff, Nat.reduceSub, Nat.reduceLeDiff, Nat.reduceAdd, Int.reduceEq, Int.reduceLT, Int.reduceLE]
  have er : repB m.to = true := by simp only [repB, r2, and_self, decide_true]
  by_cases r3 : m.fr = m.to
  · have e := checkM_h (m := m) fun h => h.2.2.2.1 r3
    (try simp only [bK1, bK2, bK3, bK4, bK5, bK6, bK7, bK8]); simp (maxSteps := 10000000) (disch := omega) only [er, r3, e, go_sem, ↓reduceIte, Nat.reduceEqDiff, Nat.reduceSub, Nat.reduceLeDiff, Nat.reduceAdd, Int.reduceEq, Int.reduceLT, Int.reduceLE]
  by_cases r4 : (8 : Int) < (m.evs.length : Int)
  · have e := checkM_h (m := m) fun h => by have := h.2.2.2.2.1; omega
    (try simp only [bK1, bK2, bK3, bK4, bK5, bK6, bK7, bK8]); simp (maxSteps := 10000000) (disch := omega) only [er, r3, r4, e, go_sem, ↓reduceIte, Nat.reduceEqDiff, Nat.reduceSub, Nat.reduceLeDiff, Nat.reduceAdd, Int.reduceEq, Int.reduceLT, Int.reduceLE]
  by_cases r5 : (0 : Int) < (m.evs.length : Int)
  · have e := checkM_h (m := m) fun h => by have := h.2.2.2.2.2 hk; omega
    (try simp only [bK1, bK2, bK3, bK4, bK5, bK6, bK7, bK8]); simp (maxSteps := 10000000) (disch := omega) only [er, r3, r4, hk, r5, e, List.length_map, go_sem, ↓reduceIte, Nat.reduceEqDiff, Nat.reduceSub, Nat.reduceLeDiff, Nat.reduceAdd, Int.reduceEq, Int.reduceLT, Int.reduceLE]
  have e := checkM_e (m := m) ⟨.inl hk, r1, r2, r3, by omega, fun _ => by omega⟩
  (try simp only [bK1, bK2, bK3, bK4, bK5, bK6, bK7, bK8]); simp (maxSteps := 10000000) (disch := omega) only [er, r3, r4, hk, r5, List.length_map, go_sem, ↓reduceIte, Nat.reduceEqDiff, Nat.reduceSub, Nat.reduceLeDiff, Nat.reduceAdd, Int.reduceEq, Int.reduceLT, Int.reduceLE]
  refine call_with (okContM h1 (fun e he => (h3 e he).1) h2) ?_
  (try simp only [bK1, bK2, bK3, bK4, bK5, bK6, bK7, bK8]); simp (maxSteps := 10000000) (disch := omega) only [e, Bool.not_not, go_sem, ↓reduceIte, Nat.reduceEqDiff, Nat.reduceSub, Nat.reduceLeDiff, Nat.reduceAdd, Int.reduceEq, Int.reduceLT, Int.reduceLE]
 ·
  (try simp only [bK1, bK2, bK3, bK4, bK5, bK6, bK7, bK8]); simp (maxSteps := 10000000) (disch := omega) only [ir44, List.length_map, hk, go_sem, ↓reduceIte, Nat.reduceEqDiff, Nat.reduceSub, Nat.reduceLeDiff, Nat.reduceAdd, Int.reduceEq, Int.reduceLT, Int.reduceLE]
  refine call_with (okRepM m.fr) ?_
  by_cases r1 : 1 ≤ m.fr ∧ m.fr ≤ 8
  rotate_left
  · have e := checkM_h (m := m) fun h => r1 h.2.1
    have er : repB m.fr = false := by simp only [repB, r1, decide_false]
    (try simp only [bK1, bK2, bK3, bK4, bK5, bK6, bK7, bK8]); simp (maxSteps := 10000000) (disch := omega) only [er, e, go_sem, ↓reduceIte, Nat.reduceEqDiff, Nat.reduceSub, Nat.reduceLeDiff, Nat.reduceAdd, Int.reduceEq, Int.reduceLT, Int.reduceLE]
  have er : repB m.fr = true := by simp only [repB, r1, and_self, decide_true]
  (try simp only [bK1, bK2, bK3, bK4, bK5, bK6, bK7, bK8]); simp (maxSteps := 10000000) (disch := omega) only [er, go_sem, ↓reduceIte, Nat.reduceEqDiff, Nat.reduceSub, Nat.reduceLeDiff, Nat.reduceAdd, Int.reduceEq, Int.reduceLT, Int.reduceLE]
  refine call_with (okRepM m.to) ?_
  by_cases r2 : 1 ≤ m.to ∧ m.to ≤ 8
  rotate_left
  · have e := checkM_h (m := m) fun h => r2 h.2.2.1
    have er : repB m.to = false := by simp only [repB, r2, decide_false]
    (try simp only [bK1, bK2, bK3, bK4, bK5, bK6, bK7, bK8]); simp (maxSteps := 10000000) (disch := omega) only [er, e, go_sem, ↓reduceIte, Nat.reduceEqDiff, Nat.reduceSub, Nat.reduceLeDiff, Nat.reduceAdd, Int.reduceEq, Int.reduceLT, Int.reduceLE]
  have er : repB m.to = true := by simp only [repB, r2, and_self, decide_true]
  by_cases r3 : m.fr = m.to
  · have e := checkM_h (m := m) fun h => h.2.2.2.1 r3
    (try simp only [bK1, bK2, bK3, bK4, bK5, bK6, bK7, bK8]); simp (maxSteps := 10000000) (disch := omega) only [er, r3, e, go_sem, ↓reduceIte, Nat.reduceEqDiff, Nat.reduceSub, Nat.reduceLeDiff, Nat.reduceAdd, Int.reduceEq, Int.reduceLT, Int.reduceLE]
  by_cases r4 : (8 : Int) < (m.evs.length : Int)
  · have e := checkM_h (m := m) fun h => by have := h.2.2.2.2.1; omega
    (try simp only [bK1, bK2, bK3, bK4, bK5, bK6, bK7, bK8]); simp (maxSteps := 10000000) (disch := omega) only [er, r3, r4, e, go_sem, ↓reduceIte, Nat.reduceEqDiff, Nat.reduceSub, Nat.reduceLeDiff, Nat.reduceAdd, Int.reduceEq, Int.reduceLT, Int.reduceLE]
  have e := checkM_e (m := m) ⟨.inr hk, r1, r2, r3, by omega, fun h => by omega⟩
  (try simp only [bK1, bK2, bK3, bK4, bK5, bK6, bK7, bK8]); simp (maxSteps := 10000000) (disch := omega) only [er, r3, r4, hk, List.length_map, go_sem, ↓reduceIte, Nat.reduceEqDiff, Nat.reduceSub, Nat.reduceLeDiff, Nat.reduceAdd, Int.reduceEq, Int.reduceLT, Int.reduceLE]
  refine call_with (okContM h1 (fun e he => (h3 e he).1) h2) ?_
  (try simp only [bK1, bK2, bK3, bK4, bK5, bK6, bK7, bK8]); simp (maxSteps := 10000000) (disch := omega) only [e, Bool.not_not, go_sem, ↓reduceIte, Nat.reduceEqDiff, Nat.reduceSub, Nat.reduceLeDiff, Nat.reduceAdd, Int.reduceEq, Int.reduceLT, Int.reduceLE]
end Go.Proofs.Ytfkmlmckihmihaa.Fw
namespace Go.Proofs.Ytfkmlmckihmihaa.Fw
open Go.RowKit Go.Proofs
abbrev v0 : Vc := fun _ => 0
theorem shrinkM_len (v base : Vc) (hv : ∀ i, i < 8 → v i < 4294967296) (hb : ∀ i, i < 8 → base i < 4294967296) : (shrinkB v base).length ≤ 42 := by
 have := byTo_len v base hv hb 8 (by omega)
 simp [shrinkB]; omega
def headB (m : Msg) : List UInt8 := [UInt8.ofNat m.k.toNat, UInt8.ofNat m.fr.toNat, UInt8.ofNat m.to.toNat]
def rowsB (m : Msg) (k : Nat) : List (List UInt8) := (List.range k).map fun i => shrinkB (m.tb i) m.kn
def fldM (m : Msg) (k j : Nat) : List (List UInt8) := [headB m, shrinkB m.kn v0] ++ (rowsB m k ++ (m.evs.take j).map evB)
def fieldsM (m : Msg) : List (List UInt8) := [headB m, shrinkB m.kn v0] ++ (rowsB m 8 ++ m.evs.map evB)
def writeM (m : Msg) : List UInt8 := packB (fieldsM m)
theorem rowsB_succ (m : Msg) (k : Nat) : rowsB m (k + 1) = rowsB m k ++ [shrinkB (m.tb k) m.kn] := by simp [rowsB, List.range_succ]
theorem head_of {m : Msg} (hc : checkM m = true) : HeadM m := Classical.byContradiction fun hn => by rw [checkM_h hn] at hc; cases hc
theorem evs_of {m : Msg} (hc : checkM m = true) : ∀ e ∈ m.evs, checkB e = true := by
 rw [checkM_e (head_of hc), List.all_eq_true] at hc; exact hc
theorem fldM_len (m : Msg) (k j : Nat) : (fldM m k j).length = 2 + k + min j m.evs.length := by simp [fldM, rowsB]; omega
theorem fldM_row (m : Msg) (k : Nat) : (fldM m (k + 1) 0).map bE = (fldM m k 0).map bE ++ [[PV.sl false 1 (bytesE (shrinkB (m.tb k) m.kn))]] := by
 simp [fldM, rowsB_succ, bE]
theorem fldM_ev {m : Msg} {j : Nat} (h : j < m.evs.length) : (fldM m 8 (j + 1)).map bE = (fldM m 8 j).map bE ++ [[PV.sl false 1 (bytesE (evB m.evs[j]))]] := by
 simp only [fldM, List.take_add_one, List.getElem?_eq_getElem h, List.map_append, List.map_cons, List.map_nil, Option.toList_some, bE, List.append_assoc, List.cons_append, List.nil_append]
theorem fldM_all (m : Msg) : fldM m 8 m.evs.length = fieldsM m := by simp [fldM, fieldsM]
theorem evB_le {e : Evt} (h : checkB e = true) : (evB e).length ≤ 3636 := Nat.le_trans (packB_len _) (fields_pack (good_of_check h))
theorem packLen_le {L : List (List UInt8)} {c : Nat} (h : ∀ b ∈ L, b.length ≤ c) : packLen L ≤ (c + 3) * L.length := by
 induction L with
 | nil => simp [packLen]
 | cons b l ih =>
  have h1 := h b List.mem_cons_self
  have h2 := ih fun x hx => h x (List.mem_cons_of_mem _ hx)
  simp only [packLen, List.length_cons, Nat.mul_add, Nat.mul_one]
  omega
theorem fieldsM_le {m : Msg} (hm : mv m) (hc : checkM m = true) : ∀ b ∈ fieldsM m, b.length ≤ 3636 := fun b hb => by
 obtain ⟨h1, h2, h3, h4, h5⟩ := hm
 have v0ok : ∀ i, i < 8 → v0 i < 4294967296 := fun i _ => by show 0 < _; omega
 simp only [fieldsM, rowsB, List.mem_append, List.mem_cons, List.not_mem_nil, or_false, List.mem_map, List.mem_range] at hb
 rcases hb with (hb | hb) | ⟨i, hi, hb⟩ | ⟨e, he, hb⟩
 · subst hb; simp [headB]
 · subst hb; have := shrinkM_len m.kn v0 h4 v0ok; omega
 · subst hb; have := shrinkM_len (m.tb i) m.kn (h5 i hi) h4; omega
 · subst hb; exact evB_le (evs_of hc e he)
theorem fieldsM_len (m : Msg) : (fieldsM m).length = 10 + m.evs.length := by simp [fieldsM, rowsB]; omega
theorem fieldsM_pack {m : Msg} (hm : mv m) (hc : checkM m = true) : packLen (fieldsM m) ≤ 65502 := by
 have h1 := packLen_le (fieldsM_le hm hc)
 have h2 := (head_of hc).2.2.2.2.1
 have h3 := fieldsM_len m
 rw [h3] at h1
 omega
theorem okWriteM_bad (m : Msg) (hm : mv m) (hc : checkM m = false) {h d} : FunOk Try.prog 29 [.vec 76 (msgE m)] h d (.tup [.pv (.sl true 0 []), .pv (.i .i64 7)]) [] := by
 refine fun_pure mixed fn29 (by simp) rfl rfl fun F => ?_
 (try simp only [bK1, bK2, bK3, bK4, bK5, bK6, bK7, bK8]); simp (maxSteps := 10000000) (disch := omega) only [ir29, go_sem, ↓reduceIte, Nat.reduceEqDiff, Nat.reduceSub, Nat.reduceLeDiff, Nat.reduceAdd, Int.reduceEq, Int.reduceLT, Int.reduceLE]
 refine call_with (okCheckM m hm) ?_
 (try simp only [bK1, bK2, bK3, bK4, bK5, bK6, bK7, bK8]); simp (maxSteps := 10000000) (disch := omega) only [hc, go_sem, ↓reduceIte, Nat.reduceEqDiff, Nat.reduceSub, Nat.reduceLeDiff, Nat.reduceAdd, Int.reduceEq, Int.reduceLT, Int.reduceLE]
def stWM (m : Msg) (k : Nat) : FS := mk [(31, .pv (.i .i64 k)), (30, .vec 64 (tE m.tb)), (4, .os 50), (1, .p 1 0)] [(1, some (.var (.vec 76 (msgE m)))), (50, some (.row 1 ((fldM m k 0).map bE)))]
def stWE (m : Msg) (k : Nat) : FS := mk [(45, .pv (.i .i64 k)), (44, .pv (.i .i64 m.evs.length)), (43, .pv (.sl m.f m.z (m.evs.map evE))), (4, .os 50), (1, .p 1 0)] [(1, some (.var (.vec 76 (msgE m)))), (50, some (.row 1 ((fldM m 8 k).map bE)))]
theorem byteW {n : Int} (h0 : 0 ≤ n) (h1 : n ≤ 8) : IntKind.u8.wrap n = ((UInt8.ofNat n.toNat).toNat : Int) := by
 obtain ⟨k, rfl⟩ : ∃ k : Nat, n = k := ⟨n.toNat, by omega⟩
 rw [Int.toNat_natCast]; exact wrap_u8_nat k
set_option maxHeartbeats 8000000 in
theorem okWriteM (m : Msg) (hm : mv m) (hc : checkM m = true) {h d} : FunOk Try.prog 29 [.vec 76 (msgE m)] h d (.tup [.os d, .pv (.i .i64 0)]) [.new d (.row 1 (bytesE (writeM m)))] := by
 refine fun_row2 mixed fn29 (by simp) rfl (.inr (bytesE_all _)) rfl fun F => ?_
 have hH := head_of hc
 have hE := evs_of hc
 obtain ⟨h1, h2, h3, h4, h5⟩ := id hm
 obtain ⟨q1, q2, q3, q4, q5, q6⟩ := hH
 have w1 := byteW (n := m.k) (by omega) (by omega)
 have w2 := byteW (n := m.fr) (by omega) (by omega)
 have w3 := byteW (n := m.to) (by omega) (by omega)
 (try simp only [bK1, bK2, bK3, bK4, bK5, bK6, bK7, bK8]); simp (maxSteps := 10000000) (disch := omega) only [ir29, go_sem, ↓reduceIte, Nat.reduceEqDiff, Nat.reduceSub, Nat.reduceLeDiff, Nat.reduceAdd, Int.reduceEq, Int.reduceLT, Int.reduceLE]
 refine call_with (okCheckM m hm) ?_
 (try simp only [bK1, bK2, bK3, bK4, bK5, bK6, bK7, bK8]); simp (maxSteps := 10000000) (disch := omega) only [hc, w1, w2, w3, go_sem, ↓reduceIte, Nat.reduceEqDiff, Nat.reduceSub, Nat.reduceLeDiff, Nat.reduceAdd, Int.reduceEq, Int.reduceLT, Int.reduceLE]
 have v0ok : ∀ i, i < 8 → v0 i < 4294967296 := fun i _ => by show 0 < _; omega
 refine call_with (okShrink m.kn v0 h4 v0ok) ?_
 have e1 : [[PV.i IntKind.u8 ((UInt8.ofNat m.k.toNat).toNat : Int)], [PV.i IntKind.u8 ((UInt8.ofNat m.fr.toNat).toNat : Int)], [PV.i IntKind.u8 ((UInt8.ofNat m.to.toNat).toNat : Int)]] = bytesE (headB m) := rfl
 (try simp only [bK1, bK2, bK3, bK4, bK5, bK6, bK7, bK8]); simp (maxSteps := 10000000) (disch := omega) only [e1, go_sem, ↓reduceIte, Nat.reduceEqDiff, Nat.reduceSub, Nat.reduceLeDiff, Nat.reduceAdd, Int.reduceEq, Int.reduceLT, Int.reduceLE]
 refine loop_ok mixed (stWM m) (fun k => k ≤ 8) (fun k => 8 - k) 0 (by simp) (wk_ren 28 50 (by decide) rfl (weak_mk ?_ ?_)) fun k hk => ?_
 · (try simp only [bK1, bK2, bK3, bK4, bK5, bK6, bK7, bK8]); simp (maxSteps := 10000000) (disch := omega) only [go_sem, ↓reduceIte, Nat.reduceEqDiff, Nat.reduceSub, Nat.reduceLeDiff, Nat.reduceAdd, Int.reduceEq, Int.reduceLT, Int.reduceLE]
 · (try simp only [bK1, bK2, bK3, bK4, bK5, bK6, bK7, bK8]); simp (maxSteps := 10000000) (disch := omega) only [go_sem, ↓reduceIte, Nat.reduceEqDiff, Nat.reduceSub, Nat.reduceLeDiff, Nat.reduceAdd, Int.reduceEq, Int.reduceLT, Int.reduceLE]
   rfl
 by_cases hlt : k < 8
 · have hr := rowsB_succ m k
   (try simp only [bK1, bK2, bK3, bK4, bK5, bK6, bK7, bK8]); simp (maxSteps := 10000000) (disch := omega) only [stWM, hlt, go_sem, ↓reduceIte, Nat.reduceEqDiff, Nat.reduceSub, Nat.reduceLeDiff, Nat.reduceAdd, Int.reduceEq, Int.reduceLT, Int.reduceLE]
   refine call_with (okShrink (m.tb k) m.kn (h5 k hlt) h4) ?_
   have hl := fldM_len m k 0
   have hf := fldM_row m k
   (try simp only [bK1, bK2, bK3, bK4, bK5, bK6, bK7, bK8]); simp (maxSteps := 10000000) (disch := omega) only [List.length_map, go_sem, ↓reduceIte, Nat.reduceEqDiff, Nat.reduceSub, Nat.reduceLeDiff, Nat.reduceAdd, Int.reduceEq, Int.reduceLT, Int.reduceLE]
   refine ⟨k + 1, by omega, by omega, wk_ren 40 50 (by decide) rfl (weak_mk ?_ ?_)⟩
   · (try simp only [bK1, bK2, bK3, bK4, bK5, bK6, bK7, bK8]); simp (maxSteps := 10000000) (disch := omega) only [go_sem, ↓reduceIte, Nat.reduceEqDiff, Nat.reduceSub, Nat.reduceLeDiff, Nat.reduceAdd, Int.reduceEq, Int.reduceLT, Int.reduceLE]
   · (try simp only [bK1, bK2, bK3, bK4, bK5, bK6, bK7, bK8]); simp (maxSteps := 10000000) (disch := omega) only [hf, go_sem, ↓reduceIte, Nat.reduceEqDiff, Nat.reduceSub, Nat.reduceLeDiff, Nat.reduceAdd, Int.reduceEq, Int.reduceLT, Int.reduceLE]
 obtain rfl : k = 8 := by omega
 (try simp only [bK1, bK2, bK3, bK4, bK5, bK6, bK7, bK8]); simp (maxSteps := 10000000) (disch := omega) only [stWM, List.length_map, go_sem, ↓reduceIte, Nat.reduceEqDiff, Nat.reduceSub, Nat.reduceLeDiff, Nat.reduceAdd, Int.reduceEq, Int.reduceLT, Int.reduceLE]
 refine loop_ok mixed (stWE m) (fun k => k ≤ m.evs.length) (fun k => m.evs.length - k) 0 (by simp) (weak_mk ?_ ?_) fun j hj => ?_
 · (try simp only [bK1, bK2, bK3, bK4, bK5, bK6, bK7, bK8]); simp (maxSteps := 10000000) (disch := omega) only [go_sem, ↓reduceIte, Nat.reduceEqDiff, Nat.reduceSub, Nat.reduceLeDiff, Nat.reduceAdd, Int.reduceEq, Int.reduceLT, Int.reduceLE]
 · (try simp only [bK1, bK2, bK3, bK4, bK5, bK6, bK7, bK8]); simp (maxSteps := 10000000) (disch := omega) only [go_sem, ↓reduceIte, Nat.reduceEqDiff, Nat.reduceSub, Nat.reduceLeDiff, Nat.reduceAdd, Int.reduceEq, Int.reduceLT, Int.reduceLE]
 by_cases hlj : j < m.evs.length
 · have hz2 : m.z = 21 := h1.resolve_left fun e => by rw [e] at hlj; simp at hlj
   have he : (m.evs.map evE)[j]? = some (evE m.evs[j]) := by simp [hlj]
   have hl := fldM_len m 8 j
   have hf := fldM_ev hlj
   have hmem := List.getElem_mem hlj
   have hce := hE _ hmem
   have hev := (h3 _ hmem).1
   have hvl := evE_len m.evs[j]
   generalize m.evs[j] = e at *
   (try simp only [bK1, bK2, bK3, bK4, bK5, bK6, bK7, bK8]); simp (maxSteps := 10000000) (disch := omega) only [stWE, List.length_map, hz2, he, ld_ev, hlj, go_sem, ↓reduceIte, Nat.reduceEqDiff, Nat.reduceSub, Nat.reduceLeDiff, Nat.reduceAdd, Int.reduceEq, Int.reduceLT, Int.reduceLE]
   refine call_with (okWrite e hev hce) ?_
   (try simp only [bK1, bK2, bK3, bK4, bK5, bK6, bK7, bK8]); simp (maxSteps := 10000000) (disch := omega) only [List.length_map, go_sem, ↓reduceIte, Nat.reduceEqDiff, Nat.reduceSub, Nat.reduceLeDiff, Nat.reduceAdd, Int.reduceEq, Int.reduceLT, Int.reduceLE]
   refine ⟨j + 1, by omega, by omega, wk_ren 60 50 (by decide) rfl (weak_mk ?_ ?_)⟩
   · (try simp only [bK1, bK2, bK3, bK4, bK5, bK6, bK7, bK8]); simp (maxSteps := 10000000) (disch := omega) only [hz2, go_sem, ↓reduceIte, Nat.reduceEqDiff, Nat.reduceSub, Nat.reduceLeDiff, Nat.reduceAdd, Int.reduceEq, Int.reduceLT, Int.reduceLE]
   · (try simp only [bK1, bK2, bK3, bK4, bK5, bK6, bK7, bK8]); simp (maxSteps := 10000000) (disch := omega) only [hf, go_sem, ↓reduceIte, Nat.reduceEqDiff, Nat.reduceSub, Nat.reduceLeDiff, Nat.reduceAdd, Int.reduceEq, Int.reduceLT, Int.reduceLE]
 obtain rfl : j = m.evs.length := by omega
 have hal := fldM_all m
 (try simp only [bK1, bK2, bK3, bK4, bK5, bK6, bK7, bK8]); simp (maxSteps := 10000000) (disch := omega) only [stWE, hal, go_sem, ↓reduceIte, Nat.reduceEqDiff, Nat.reduceSub, Nat.reduceLeDiff, Nat.reduceAdd, Int.reduceEq, Int.reduceLT, Int.reduceLE]
 have hfl := fieldsM_le hm hc
 have hfp := fieldsM_pack hm hc
 refine call_with (okPack (f := false) (z := 1) (L := fieldsM m) rfl rfl (bsEq_map _) (.inr rfl) (by omega) fun b hb => by have := hfl b hb; omega) ?_
 (try simp only [bK1, bK2, bK3, bK4, bK5, bK6, bK7, bK8]); simp (maxSteps := 10000000) (disch := omega) only [writeM, go_sem, ↓reduceIte, Nat.reduceEqDiff, Nat.reduceSub, Nat.reduceLeDiff, Nat.reduceAdd, Int.reduceEq, Int.reduceLT, Int.reduceLE]
end Go.Proofs.Ytfkmlmckihmihaa.Fw
namespace Go.Proofs.Ytfkmlmckihmihaa.Fw
open Go.RowKit Go.Proofs
def canM (m : Msg) : Msg := { m with f := m.evs.isEmpty, z := if m.evs.isEmpty then 0 else 21, evs := m.evs.map canon }
def SegsC : List SV → List PV → Prop
 | [], cs => cs = []
 | .pv x :: l, cs => ∃ r, cs = x :: r ∧ SegsC l r
 | .vec n c :: l, cs => c.length = n ∧ ∃ r, cs = c ++ r ∧ SegsC l r
 | _ :: _, _ => False
theorem cells_seg {V : View} {ρ : Nat → Value} : ∀ {l : List SV} {cs : List PV} {vs : List Value}, SegsC l cs → PCells V cs vs → Cells V ρ l vs
 | [], cs, vs, h, hp => by
  have h : cs = [] := h
  subst h
  simp only [Cells]
  exact List.eq_nil_of_length_eq_zero hp.1.symm
 | .pv x :: l, cs, vs, h, hp => by
  obtain ⟨r, rfl, h⟩ := h
  simp only [Cells]
  obtain ⟨v, hv, hx⟩ := hp.2 0 x rfl
  cases vs with
  | nil => cases hv
  | cons u us =>
   have : u = v := by simpa using hv
   subst this
   have hf : flatV u = [u] := by have := hx.one; cases u <;> simp_all [flatV, oneCell]
   refine ⟨u, us, by rw [hf]; rfl, by simp only [Conc]; exact hx, by rw [hf]; rfl, fun c hc => ?_, cells_seg h ⟨by simpa using hp.1, fun j y hy => by simpa using hp.2 (j + 1) y (by simpa using hy)⟩⟩
   rw [hf] at hc
   rw [List.mem_singleton.1 hc]
   exact hx.one
 | .vec n c :: l, cs, vs, h, hp => by
  obtain ⟨hn, r, rfl, h⟩ := h
  simp only [Cells]
  have hl : c.length + r.length = vs.length := by simpa using hp.1
  have hA : PCells V c (vs.take n) := ⟨by simp; omega, fun j y hy => by
   have hj := (List.getElem?_eq_some_iff.1 hy).1
   obtain ⟨v, h1, h2⟩ := hp.2 j y (by rw [List.getElem?_append_left hj]; exact hy)
   exact ⟨v, by rw [List.getElem?_take_of_lt (by omega)]; exact h1, h2⟩⟩
  refine ⟨.agg ⟨vs.take n⟩, vs.drop n, (List.take_append_drop n vs).symm, by simp only [Conc]; exact ⟨_, rfl, by simp; omega, hA⟩, by simp [flatV, SV.width]; omega, fun x hx => hA.one x hx, cells_seg h ⟨by simp; omega, fun j y hy => by
   obtain ⟨v, h1, h2⟩ := hp.2 (n + j) y (by rw [List.getElem?_append_right (by omega)]; simpa [hn] using hy)
   exact ⟨v, by rw [List.getElem?_drop]; exact h1, h2⟩⟩⟩
 | .agg _ :: _, _, _, h, _ => h.elim
 | .tup _ :: _, _, _, h, _ => h.elim
 | .p _ _ :: _, _, _, h, _ => h.elim
 | .ps _ _ :: _, _, _, h, _ => h.elim
 | .pr _ _ _ _ :: _, _, _, h, _ => h.elim
 | .pi _ _ _ _ :: _, _, _, h, _ => h.elim
 | .os _ :: _, _, _, h, _ => h.elim
 | .ov _ _ _ _ :: _, _, _, h, _ => h.elim
 | .fn _ _ :: _, _, _, h, _ => h.elim
 | .dead :: _, _, _, h, _ => h.elim
theorem imp_seg {l : List SV} {cs : List PV} {n : Nat} (h : SegsC l cs) : Imp (.vec n cs) (.agg l) := by
 intro V ρ v hv
 simp only [Conc] at hv ⊢
 obtain ⟨vs, rfl, _, hp⟩ := hv
 exact ⟨vs, rfl, cells_seg h hp⟩
def evS (l : List Evt) (k : Nat) : SV := if k = 0 then .pv (.sl true 0 []) else if k = l.length then .pv (.sl false 21 (l.map evE)) else .os 60
def evK (l : List Evt) (k : Nat) : Option Blk := if k = 0 ∨ k = l.length then none else some (.row 21 ((l.take k).map evE))
theorem evS_0 (l : List Evt) : evS l 0 = .pv (.sl true 0 []) := if_pos rfl
theorem evK_0 (l : List Evt) : evK l 0 = none := if_pos (.inl rfl)
theorem evS_k {l : List Evt} {k : Nat} (h : 0 < k ∧ k < l.length) : evS l k = .os 60 := by unfold evS; rw [if_neg (by omega), if_neg (by omega)]
theorem evK_k {l : List Evt} {k : Nat} (h : 0 < k ∧ k < l.length) : evK l k = some (.row 21 ((l.take k).map evE)) := if_neg (by omega)
theorem evS_n {l : List Evt} {k : Nat} (h : 0 < k ∧ k = l.length) : evS l k = .pv (.sl false 21 (l.map evE)) := by unfold evS; rw [if_neg (by omega), if_pos h.2]
theorem evK_n {l : List Evt} {k : Nat} (h : 0 < k ∧ k = l.length) : evK l k = none := if_pos (.inr h.2)
def tbM (m : Msg) (t : Nat → Vc) : Msg := { m with tb := t, f := true, z := 0, evs := [] }
theorem splice_tb (m : Msg) (t : Nat → Vc) {k : Nat} (hk : k < 8) (v : Vc) : splice (msgE (tbM m t)) (11 + k * 8) (vE v) = msgE (tbM m (setV t k v)) := by
 have e : tE (setV t k v) = splice (tE t) (k * 8) (vE v) := (splice_tE hk t v).symm
 simp only [splice, msgE, tbM] at e ⊢
 rw [e]
 have hk2 : k = 0 ∨ k = 1 ∨ k = 2 ∨ k = 3 ∨ k = 4 ∨ k = 5 ∨ k = 6 ∨ k = 7 := by omega
 rcases hk2 with rfl | rfl | rfl | rfl | rfl | rfl | rfl | rfl <;> rfl
def segJ (m : Msg) (x : SV) : List SV := [.pv (.i .i64 m.k), .pv (.i .i64 m.fr), .pv (.i .i64 m.to), .vec 8 (vE m.kn), .vec 64 (tE m.tb), x]
abbrev seg0 : List SV := [.pv (.i .i64 0), .pv (.i .i64 0), .pv (.i .i64 0), .vec 8 (vE fun _ => 0), .vec 64 (tE fun _ _ => 0), .pv (.sl true 0 [])]
theorem writeM_can (m : Msg) : writeM (canM m) = writeM m := by
 have e : (canM m).evs.map evB = m.evs.map evB := by show (m.evs.map canon).map evB = _; rw [List.map_map]; exact List.map_congr_left fun e _ => rfl
 unfold writeM fieldsM
 rw [e]; rfl
theorem mv_can {m : Msg} (h : mv m) : mv (canM m) := by
 obtain ⟨h1, h2, h3, h4, h5⟩ := h
 refine ⟨?_, by show (m.evs.map canon).length ≤ _; simpa using h2, fun e he => ?_, h4, h5⟩
 · show m.evs.map canon = [] ∨ (if m.evs.isEmpty then 0 else 21) = 21
   cases m.evs <;> simp
 · obtain ⟨x, hx, rfl⟩ := List.mem_map.1 (show e ∈ m.evs.map canon from he)
   exact ⟨canon_ev (h3 x hx).1, (h3 x hx).2⟩
theorem check_can (m : Msg) : checkM (canM m) = checkM m := by
 have e : (canM m).evs.all checkB = m.evs.all checkB := by
  show (m.evs.map canon).all checkB = _
  rw [List.all_map]
  congr 1
  funext x
  exact check_canon x
 have hH : HeadM (canM m) ↔ HeadM m := by
  unfold HeadM
  rw [show (canM m).evs.length = m.evs.length from List.length_map _]
  exact Iff.rfl
 by_cases h : HeadM m
 · rw [checkM_e h, checkM_e (hH.2 h), e]
 · rw [checkM_h h, checkM_h fun g => h (hH.1 g)]
theorem okWriteC (m : Msg) (hm : mv m) (hc : checkM m = true) {x : SV} (hx : .agg (segM (canM m)) = x) {h d} : FunOk Try.prog 29 [x] h d (.tup [.os d, .pv (.i .i64 0)]) [.new d (.row 1 (bytesE (writeM m)))] := by
 subst hx
 have hwr := okWriteM (canM m) (mv_can hm) ((check_can m).trans hc) (h := h) (d := d)
 rw [writeM_can] at hwr
 exact hwr.imp ⟨imp_agg (segM_cells _) (msgE_len _), trivial⟩ (by simp [tops, tn])
theorem mkOr_sg (e : Evt) (K : KK) : mkOr (cut (segE e) 0 21) true (some (evE e)) 0 21 K = K (.agg (segE e)) [] := (rfl)
def stRE (m : Msg) (l : List UInt8) (k : Nat) : FS := mk [(89, .pv (.i .i64 k)), (88, .pv (.i .i64 m.evs.length)), (87, .pv (.sl false 1 ((m.evs.map evB).map bE))), (2, .p 2 0), (6, .p 6 0), (0, .pv (.sl false 1 (bytesE l)))] [(6, some (.var (.agg (segJ m (evS (m.evs.map canon) k))))), (60, evK (m.evs.map canon) k), (2, some (.var (.agg seg0)))]
def stRT (m : Msg) (l : List UInt8) (E : List (List PV)) (k : Nat) : FS := mk [(65, .pv (.i .i64 k)), (2, .p 2 0), (4, .os 50), (6, .p 6 0), (0, .pv (.sl false 1 (bytesE l)))] [(6, some (.var (.vec 76 (msgE (tbM m fun i => if i < k then m.tb i else v0))))), (50, some (.row 1 E)), (2, some (.var (.agg seg0)))]
set_option maxHeartbeats 8000000 in
theorem okReadM (m : Msg) (hm : mv m) (hc : checkM m = true) {h d} : FunOk Try.prog 41 [.pv (.sl false 1 (bytesE (writeM m)))] h d (.tup [.agg (segM (canM m)), .pv (.i .i64 0)]) [] := by
 refine fun_pureW mixed fn41 (by simp) rfl rfl fun F => ?_
 have hH := head_of hc
 have hE := evs_of hc
 obtain ⟨h1, h2, h3, h4, h5⟩ := id hm
 obtain ⟨q1, q2, q3, q4, q5, q6⟩ := hH
 have hfl := fieldsM_le hm hc
 have hfp := fieldsM_pack hm hc
 have hfn := fieldsM_len m
 have hpl := packB_len (fieldsM m)
 have hu : unpackG (writeM m) [] 18 = (fieldsM m, 0) := unpack_all (fieldsM m) 18 (fun b hb => by have := hfl b hb; omega) (by omega)
 have hwl : (writeM m).length ≤ 65502 := by unfold writeM; omega
 have hel : ((fieldsM m).map bE).length = 10 + m.evs.length := by simp [hfn]
 have f0 : ((fieldsM m).map bE)[0]? = some [.sl false 1 (bytesE (headB m))] := by simp [fieldsM, bE]
 have f1 : ((fieldsM m).map bE)[Int.toNat 1]? = some [.sl false 1 (bytesE (shrinkB m.kn v0))] := by simp [fieldsM, bE]
 have ft : ∀ k, k < 8 → ((fieldsM m).map bE)[2 + k]? = some [.sl false 1 (bytesE (shrinkB (m.tb k) m.kn))] := fun k hk => by
  rw [show 2 + k = k + 1 + 1 by omega]
  simp only [fieldsM, rowsB, bE, List.cons_append, List.nil_append, List.map_cons, List.getElem?_cons_succ, List.map_append, List.map_map]
  rw [List.getElem?_append_left (by simpa using hk)]
  simp [hk]; rfl
 have fe : ((fieldsM m).map bE).drop 10 = (m.evs.map evB).map bE := by
  have : fieldsM m = ([headB m, shrinkB m.kn v0] ++ rowsB m 8) ++ m.evs.map evB := by simp [fieldsM]
  rw [this, List.map_append, List.drop_left' (by simp [rowsB])]
 have b0 : (bytesE (headB m))[0]? = some [.i .u8 ((UInt8.ofNat m.k.toNat).toNat : Int)] := rfl
 have b1 : (bytesE (headB m))[Int.toNat 1]? = some [.i .u8 ((UInt8.ofNat m.fr.toNat).toNat : Int)] := rfl
 have b2 : (bytesE (headB m))[Int.toNat 2]? = some [.i .u8 ((UInt8.ofNat m.to.toNat).toNat : Int)] := rfl
 have bl : (bytesE (headB m)).length = 3 := rfl
 have wb : ∀ n : Int, 0 ≤ n → n ≤ 8 → IntKind.i64.wrap ((UInt8.ofNat n.toNat).toNat : Int) = n := fun n h0 h8 => by
  rw [toNat_ofNat_lt (by omega), Int.toNat_of_nonneg h0]; exact wrap_i64 (by omega)
 have w1 := wb m.k (by omega) (by omega)
 have w2 := wb m.fr (by omega) (by omega)
 have w3 := wb m.to (by omega) (by omega)
 have v0ok : ∀ i, i < 8 → v0 i < 4294967296 := fun i _ => by show 0 < _; omega
 have gk := growB_shrink m.kn v0 h4 v0ok
 have gke : vE (growB (shrinkB m.kn v0) v0).1 = vE m.kn := vE_ext gk.2
 have skl := shrinkM_len m.kn v0 h4 v0ok
 generalize hEE : (fieldsM m).map bE = E at *
 (try simp only [bK1, bK2, bK3, bK4, bK5, bK6, bK7, bK8]); simp (maxSteps := 10000000) (disch := omega) only [ir41, go_sem, ↓reduceIte, Nat.reduceEqDiff, Nat.reduceSub, Nat.reduceLeDiff, Nat.reduceAdd, Int.reduceEq, Int.reduceLT, Int.reduceLE]
 refine call_with (okUnpack (f := false) (z := 1) (b := writeM m) (most := 18) (.inr rfl) (by omega)) ?_
 rw [hu, hEE]
 (try simp only [bK1, bK2, bK3, bK4, bK5, bK6, bK7, bK8]); simp (maxSteps := 10000000) (disch := omega) only [hel, f0, b0, b1, b2, bl, w1, w2, w3, ld_sl, load_c0, f1, go_sem, ↓reduceIte, Nat.reduceEqDiff, Nat.reduceSub, Nat.reduceLeDiff, Nat.reduceAdd, Int.reduceEq, Int.reduceLT, Int.reduceLE]
 refine call_with (okGrow v0 v0ok (by omega) rfl rfl (.inr rfl)) ?_
 (try simp only [bK1, bK2, bK3, bK4, bK5, bK6, bK7, bK8]); simp (maxSteps := 10000000) (disch := omega) only [gk.1, gke, go_sem, ↓reduceIte, Nat.reduceEqDiff, Nat.reduceSub, Nat.reduceLeDiff, Nat.reduceAdd, Int.reduceEq, Int.reduceLT, Int.reduceLE]
 refine loop_ok mixed (stRT m (writeM m) E) (fun k => k ≤ 8) (fun k => 8 - k) 0 (by simp) (wk_ren 16 50 (by decide) rfl (weak_mk ?_ ?_)) fun k hk => ?_
 · (try simp only [bK1, bK2, bK3, bK4, bK5, bK6, bK7, bK8]); simp (maxSteps := 10000000) (disch := omega) only [go_sem, ↓reduceIte, Nat.reduceEqDiff, Nat.reduceSub, Nat.reduceLeDiff, Nat.reduceAdd, Int.reduceEq, Int.reduceLT, Int.reduceLE]
 · (try simp only [bK1, bK2, bK3, bK4, bK5, bK6, bK7, bK8]); simp (maxSteps := 10000000) (disch := omega) only [go_sem, ↓reduceIte, Nat.reduceEqDiff, Nat.reduceSub, Nat.reduceLeDiff, Nat.reduceAdd, Int.reduceEq, Int.reduceLT, Int.reduceLE]
   refine imp_agg ?_ (msgE_len _)
   rw [msgE, show tE (tbM m fun i => if i < 0 then m.tb i else v0).tb = tE (fun _ _ => 0) from tE_none m.tb (fun _ => v0) rfl]
   rfl
 by_cases hlt : k < 8
 · have fk := ft k hlt
   have en : ((2 : Int) + (k : Int)) = ((2 + k : Nat) : Int) := by omega
   have gt := growB_shrink (m.tb k) m.kn (h5 k hlt) h4
   have gte : vE (growB (shrinkB (m.tb k) m.kn) m.kn).1 = vE (m.tb k) := vE_ext gt.2
   have tl := shrinkM_len (m.tb k) m.kn (h5 k hlt) h4
   have hsp := splice_tb m (fun i => if i < k then m.tb i else v0) hlt (m.tb k)
   have hkn : ∀ t, (tbM m t).kn = m.kn := fun _ => rfl
   (try simp only [bK1, bK2, bK3, bK4, bK5, bK6, bK7, bK8]); simp (maxSteps := 10000000) (disch := omega) only [stRT, hlt, en, fk, hel, ld_sl, hkn, go_sem, ↓reduceIte, Nat.reduceEqDiff, Nat.reduceSub, Nat.reduceLeDiff, Nat.reduceAdd, Int.reduceEq, Int.reduceLT, Int.reduceLE]
   refine call_with (okGrow (l := shrinkB (m.tb k) m.kn) m.kn h4 (by omega) rfl rfl (.inr rfl)) ?_
   (try simp only [bK1, bK2, bK3, bK4, bK5, bK6, bK7, bK8]); simp (maxSteps := 10000000) (disch := omega) only [gt.1, gte, hsp, go_sem, ↓reduceIte, Nat.reduceEqDiff, Nat.reduceSub, Nat.reduceLeDiff, Nat.reduceAdd, Int.reduceEq, Int.reduceLT, Int.reduceLE]
   refine loop_next (k + 1) _ _ rfl (by omega) (by omega) ?_ ?_
   · (try simp only [bK1, bK2, bK3, bK4, bK5, bK6, bK7, bK8]); simp (maxSteps := 10000000) (disch := omega) only [go_sem, ↓reduceIte, Nat.reduceEqDiff, Nat.reduceSub, Nat.reduceLeDiff, Nat.reduceAdd, Int.reduceEq, Int.reduceLT, Int.reduceLE]
   · (try simp only [bK1, bK2, bK3, bK4, bK5, bK6, bK7, bK8]); simp (maxSteps := 10000000) (disch := omega) only [go_sem, ↓reduceIte, Nat.reduceEqDiff, Nat.reduceSub, Nat.reduceLeDiff, Nat.reduceAdd, Int.reduceEq, Int.reduceLT, Int.reduceLE]
     refine imp_vec ?_
     rw [msgE, msgE, show tE (tbM m (setV (fun i => if i < k then m.tb i else v0) k (m.tb k))).tb = tE (tbM m fun i => if i < k + 1 then m.tb i else v0).tb from tE_setV_lt _ _ _ fun i hi => rfl]
     rfl
 obtain rfl : k = 8 := by omega
 have htb : tE (tbM m fun i => if i < 8 then m.tb i else v0).tb = tE m.tb := tE_all _ _ (Nat.le_refl 8)
 have etk : List.take (10 + m.evs.length) E = E := List.take_of_length_le (by omega)
 have e10 : Int.toNat 10 = 10 := rfl
 (try simp only [bK1, bK2, bK3, bK4, bK5, bK6, bK7, bK8]); simp (maxSteps := 10000000) (disch := omega) only [stRT, hel, etk, e10, fe, List.length_map, go_sem, ↓reduceIte, Nat.reduceEqDiff, Nat.reduceSub, Nat.reduceLeDiff, Nat.reduceAdd, Int.reduceEq, Int.reduceLT, Int.reduceLE]
 refine loop_ok mixed (stRE m (writeM m)) (fun k => k ≤ m.evs.length) (fun k => m.evs.length - k) 0 (by simp) (weak_mk ?_ ?_) fun k hk => ?_
 · (try simp only [bK1, bK2, bK3, bK4, bK5, bK6, bK7, bK8]); simp (maxSteps := 10000000) (disch := omega) only [go_sem, ↓reduceIte, Nat.reduceEqDiff, Nat.reduceSub, Nat.reduceLeDiff, Nat.reduceAdd, Int.reduceEq, Int.reduceLT, Int.reduceLE]
 · (try simp only [bK1, bK2, bK3, bK4, bK5, bK6, bK7, bK8]); simp (maxSteps := 10000000) (disch := omega) only [segJ, evS_0, evK_0, go_sem, ↓reduceIte, Nat.reduceEqDiff, Nat.reduceSub, Nat.reduceLeDiff, Nat.reduceAdd, Int.reduceEq, Int.reduceLT, Int.reduceLE]
   refine imp_seg ⟨_, rfl, _, rfl, _, rfl, vE_length _, _, rfl, tE_length _, [.sl true 0 []], ?_, _, rfl, rfl⟩
   rw [← htb]; rfl
 by_cases hlt : k < m.evs.length
 · have he : ((m.evs.map evB).map bE)[k]? = some [.sl false 1 (bytesE (evB m.evs[k]))] := by simp [hlt]; rfl
   have hmem := List.getElem_mem hlt
   have hce := hE _ hmem
   have hev := (h3 _ hmem).1
   have ht : ((m.evs.map canon).take (k + 1)).map evE = ((m.evs.map canon).take k).map evE ++ [evE (canon m.evs[k])] := by
    rw [List.take_add_one, List.getElem?_eq_getElem (by simpa using hlt)]; simp
   have hvl := evE_len (canon m.evs[k])
   have hkl : ((m.evs.map canon).take k).length ≤ 8 := by simp; omega
   have hkl' : (((m.evs.map canon).take k).map evE).length ≤ 8 := by simpa using hkl
   have hz := evE_len (canon m.evs[k])
   generalize m.evs[k] = e at *
   generalize hN : m.evs.map canon = N at *
   have hNl : N.length = m.evs.length := by rw [← hN]; simp
   (try simp only [bK1, bK2, bK3, bK4, bK5, bK6, bK7, bK8]); simp (maxSteps := 10000000) (disch := omega) only [stRE, segJ, hlt, he, ld_sl, List.length_map, hN, go_sem, ↓reduceIte, Nat.reduceEqDiff, Nat.reduceSub, Nat.reduceLeDiff, Nat.reduceAdd, Int.reduceEq, Int.reduceLT, Int.reduceLE]
   refine call_with (okRead_ok e hce hev) ?_
   by_cases hk0 : k = 0
   · subst hk0
     rw [List.take_zero, List.map_nil, List.nil_append, Nat.zero_add] at ht
     have h0 : ([evE (canon e)] = []) = False := by simp
     (try simp only [bK1, bK2, bK3, bK4, bK5, bK6, bK7, bK8]); simp (maxSteps := 10000000) (disch := omega) only [evS_0, evK_0, seg_cells, mkOr_sg, hz, h0, go_sem, ↓reduceIte, Nat.reduceEqDiff, Nat.reduceSub, Nat.reduceLeDiff, Nat.reduceAdd, Int.reduceEq, Int.reduceLT, Int.reduceLE]
     by_cases hn : 1 < m.evs.length
     · have sS := evS_k (l := N) (k := 1) ⟨by omega, by omega⟩
       have sK := evK_k (l := N) (k := 1) ⟨by omega, by omega⟩
       refine ⟨1, by omega, by omega, wk_ren 105 60 (by decide) rfl (weak_mk ?_ ?_)⟩
       · (try simp only [bK1, bK2, bK3, bK4, bK5, bK6, bK7, bK8]); simp (maxSteps := 10000000) (disch := omega) only [go_sem, ↓reduceIte, Nat.reduceEqDiff, Nat.reduceSub, Nat.reduceLeDiff, Nat.reduceAdd, Int.reduceEq, Int.reduceLT, Int.reduceLE]
       · (try simp only [bK1, bK2, bK3, bK4, bK5, bK6, bK7, bK8]); simp (maxSteps := 10000000) (disch := omega) only [ht, segJ, sS, sK, hN, go_sem, ↓reduceIte, Nat.reduceEqDiff, Nat.reduceSub, Nat.reduceLeDiff, Nat.reduceAdd, Int.reduceEq, Int.reduceLT, Int.reduceLE]
     · have sS := evS_n (l := N) (k := 1) ⟨by omega, by omega⟩
       have sK := evK_n (l := N) (k := 1) ⟨by omega, by omega⟩
       have htk : N.take (1) = N := List.take_of_length_le (by omega)
       rw [htk] at ht
       refine ⟨1, by omega, by omega, wk_frz 105 rfl (weak_mk ?_ ?_)⟩
       · (try simp only [bK1, bK2, bK3, bK4, bK5, bK6, bK7, bK8]); simp (maxSteps := 10000000) (disch := omega) only [hN, go_sem, ↓reduceIte, Nat.reduceEqDiff, Nat.reduceSub, Nat.reduceLeDiff, Nat.reduceAdd, Int.reduceEq, Int.reduceLT, Int.reduceLE]
       · (try simp only [bK1, bK2, bK3, bK4, bK5, bK6, bK7, bK8]); simp (maxSteps := 10000000) (disch := omega) only [ht, segJ, sS, sK, hN, go_sem, ↓reduceIte, Nat.reduceEqDiff, Nat.reduceSub, Nat.reduceLeDiff, Nat.reduceAdd, Int.reduceEq, Int.reduceLT, Int.reduceLE]
   · have sS0 := evS_k (l := N) (k := k) ⟨by omega, by omega⟩
     have sK0 := evK_k (l := N) (k := k) ⟨by omega, by omega⟩
     (try simp only [bK1, bK2, bK3, bK4, bK5, bK6, bK7, bK8]); simp (maxSteps := 10000000) (disch := omega) only [sS0, sK0, seg_cells, mkOr_sg, hz, go_sem, ↓reduceIte, Nat.reduceEqDiff, Nat.reduceSub, Nat.reduceLeDiff, Nat.reduceAdd, Int.reduceEq, Int.reduceLT, Int.reduceLE]
     by_cases hn : k + 1 < m.evs.length
     · have sS := evS_k (l := N) (k := k + 1) ⟨by omega, by omega⟩
       have sK := evK_k (l := N) (k := k + 1) ⟨by omega, by omega⟩
       refine ⟨k + 1, by omega, by omega, wk_ren 105 60 (by decide) rfl (weak_mk ?_ ?_)⟩
       · (try simp only [bK1, bK2, bK3, bK4, bK5, bK6, bK7, bK8]); simp (maxSteps := 10000000) (disch := omega) only [go_sem, ↓reduceIte, Nat.reduceEqDiff, Nat.reduceSub, Nat.reduceLeDiff, Nat.reduceAdd, Int.reduceEq, Int.reduceLT, Int.reduceLE]
       · (try simp only [bK1, bK2, bK3, bK4, bK5, bK6, bK7, bK8]); simp (maxSteps := 10000000) (disch := omega) only [ht, segJ, sS, sK, hN, go_sem, ↓reduceIte, Nat.reduceEqDiff, Nat.reduceSub, Nat.reduceLeDiff, Nat.reduceAdd, Int.reduceEq, Int.reduceLT, Int.reduceLE]
     · have sS := evS_n (l := N) (k := k + 1) ⟨by omega, by omega⟩
       have sK := evK_n (l := N) (k := k + 1) ⟨by omega, by omega⟩
       have htk : N.take (k + 1) = N := List.take_of_length_le (by omega)
       rw [htk] at ht
       refine ⟨k + 1, by omega, by omega, wk_frz 105 rfl (weak_mk ?_ ?_)⟩
       · (try simp only [bK1, bK2, bK3, bK4, bK5, bK6, bK7, bK8]); simp (maxSteps := 10000000) (disch := omega) only [hN, go_sem, ↓reduceIte, Nat.reduceEqDiff, Nat.reduceSub, Nat.reduceLeDiff, Nat.reduceAdd, Int.reduceEq, Int.reduceLT, Int.reduceLE]
       · (try simp only [bK1, bK2, bK3, bK4, bK5, bK6, bK7, bK8]); simp (maxSteps := 10000000) (disch := omega) only [ht, segJ, sS, sK, hN, go_sem, ↓reduceIte, Nat.reduceEqDiff, Nat.reduceSub, Nat.reduceLeDiff, Nat.reduceAdd, Int.reduceEq, Int.reduceLT, Int.reduceLE]
 obtain rfl : k = m.evs.length := by omega
 by_cases h0 : m.evs = []
 · have hcan : segM (canM m) = segJ m (.pv (.sl true 0 [])) := by simp [segM, canM, segJ, h0]
   have hl0 : m.evs.length = 0 := by simp [h0]
   (try simp only [bK1, bK2, bK3, bK4, bK5, bK6, bK7, bK8]); simp (maxSteps := 10000000) (disch := omega) only [stRE, hl0, evS_0, evK_0, segJ, go_sem, ↓reduceIte, Nat.reduceEqDiff, Nat.reduceSub, Nat.reduceLeDiff, Nat.reduceAdd, Int.reduceEq, Int.reduceLT, Int.reduceLE]
   refine call_with (okWriteC m hm hc (congrArg SV.agg hcan)) ?_
   (try simp only [bK1, bK2, bK3, bK4, bK5, bK6, bK7, bK8]); simp (maxSteps := 10000000) (disch := omega) only [go_sem, ↓reduceIte, Nat.reduceEqDiff, Nat.reduceSub, Nat.reduceLeDiff, Nat.reduceAdd, Int.reduceEq, Int.reduceLT, Int.reduceLE]
   refine call_with (okEqB (f := false) (g := false) (y := 1) (z := 1) (a := writeM m) (b := writeM m) rfl rfl (.inr rfl) (.inr rfl) (by omega) (by omega)) ?_
   (try simp only [bK1, bK2, bK3, bK4, bK5, bK6, bK7, bK8]); simp (maxSteps := 10000000) (disch := omega) only [hcan, segJ, go_sem, ↓reduceIte, Nat.reduceEqDiff, Nat.reduceSub, Nat.reduceLeDiff, Nat.reduceAdd, Int.reduceEq, Int.reduceLT, Int.reduceLE]
   refine ⟨_, .same _, ?_⟩
   (try simp only [bK1, bK2, bK3, bK4, bK5, bK6, bK7, bK8]); simp (maxSteps := 10000000) (disch := omega) only [go_sem, ↓reduceIte, Nat.reduceEqDiff, Nat.reduceSub, Nat.reduceLeDiff, Nat.reduceAdd, Int.reduceEq, Int.reduceLT, Int.reduceLE]
 have hpos := List.length_pos_iff.2 h0
 have sS := evS_n (l := m.evs.map canon) (k := m.evs.length) ⟨hpos, by simp⟩
 have sK := evK_n (l := m.evs.map canon) (k := m.evs.length) ⟨hpos, by simp⟩
 have hcan : segM (canM m) = segJ m (.pv (.sl false 21 ((m.evs.map canon).map evE))) := by
  have : m.evs.isEmpty = false := by simp [h0]
  simp only [segM, canM, segJ, this]; rfl
 (try simp only [bK1, bK2, bK3, bK4, bK5, bK6, bK7, bK8]); simp (maxSteps := 10000000) (disch := omega) only [stRE, sS, sK, segJ, go_sem, ↓reduceIte, Nat.reduceEqDiff, Nat.reduceSub, Nat.reduceLeDiff, Nat.reduceAdd, Int.reduceEq, Int.reduceLT, Int.reduceLE]
 refine call_with (okWriteC m hm hc (congrArg SV.agg hcan)) ?_
 (try simp only [bK1, bK2, bK3, bK4, bK5, bK6, bK7, bK8]); simp (maxSteps := 10000000) (disch := omega) only [go_sem, ↓reduceIte, Nat.reduceEqDiff, Nat.reduceSub, Nat.reduceLeDiff, Nat.reduceAdd, Int.reduceEq, Int.reduceLT, Int.reduceLE]
 refine call_with (okEqB (f := false) (g := false) (y := 1) (z := 1) (a := writeM m) (b := writeM m) rfl rfl (.inr rfl) (.inr rfl) (by omega) (by omega)) ?_
 (try simp only [bK1, bK2, bK3, bK4, bK5, bK6, bK7, bK8]); simp (maxSteps := 10000000) (disch := omega) only [hcan, segJ, go_sem, ↓reduceIte, Nat.reduceEqDiff, Nat.reduceSub, Nat.reduceLeDiff, Nat.reduceAdd, Int.reduceEq, Int.reduceLT, Int.reduceLE]
 refine ⟨_, .same _, ?_⟩
 (try simp only [bK1, bK2, bK3, bK4, bK5, bK6, bK7, bK8]); simp (maxSteps := 10000000) (disch := omega) only [go_sem, ↓reduceIte, Nat.reduceEqDiff, Nat.reduceSub, Nat.reduceLeDiff, Nat.reduceAdd, Int.reduceEq, Int.reduceLT, Int.reduceLE]
end Go.Proofs.Ytfkmlmckihmihaa.Fw
namespace Go.Proofs.Ytfkmlmckihmihaa.Fw
open Go.RowKit Go.Proofs
noncomputable def sameL (l m : List Evt) : Bool := decide (l.length = m.length) && (l.zip m).all fun p => sameB p.1 p.2
def evLs (f : Bool) (z : Nat) (l : List Evt) : Prop := (l = [] ∨ z = 21) ∧ l.length ≤ 1000 ∧ ∀ e ∈ l, ev e
def stSameEv (f g : Bool) (y z : Nat) (l m : List Evt) (k : Nat) : FS := mk [(5, .pv (.i .i64 k)), (0, .pv (.sl f y (l.map evE))), (1, .pv (.sl g z (m.map evE)))] []
set_option maxHeartbeats 2000000 in
theorem okSameEv {f g : Bool} {y z : Nat} {l m : List Evt} (hl : evLs f y l) (hm : evLs g z m) {h d} :
 FunOk Try.prog 34 [.pv (.sl f y (l.map evE)), .pv (.sl g z (m.map evE))] h d (.pv (.b (sameL l m))) [] := by
 refine fun_pure mixed fn34 (by simp) rfl rfl fun F => ?_
 obtain ⟨l1, l2, l3⟩ := hl
 obtain ⟨m1, m2, m3⟩ := hm
 by_cases hn : l.length = m.length
 rotate_left
 · have e : sameL l m = false := by simp [sameL, hn]
   have hz : ¬ (l.length : Int) = (m.length : Int) := by omega
   (try simp only [bK1, bK2, bK3, bK4, bK5, bK6, bK7, bK8]); simp (maxSteps := 10000000) (disch := omega) only [ir34, List.length_map, hz, e, go_sem, ↓reduceIte, Nat.reduceEqDiff, Nat.reduceSub, Nat.reduceLeDiff, Nat.reduceAdd, Int.reduceEq, Int.reduceLT, Int.reduceLE]
 have hz : (l.length : Int) = (m.length : Int) := by omega
 have e0 : sameL l m = (l.zip m).all fun p => sameB p.1 p.2 := by simp [sameL, hn]
 (try simp only [bK1, bK2, bK3, bK4, bK5, bK6, bK7, bK8]); simp (maxSteps := 10000000) (disch := omega) only [ir34, List.length_map, hz, go_sem, ↓reduceIte, Nat.reduceEqDiff, Nat.reduceSub, Nat.reduceLeDiff, Nat.reduceAdd, Int.reduceEq, Int.reduceLT, Int.reduceLE]
 refine loop_ok mixed (stSameEv f g y z l m) (fun k => k ≤ l.length ∧ ∀ j, (h1 : j < l.length) → (h2 : j < m.length) → j < k → sameB l[j] m[j] = true) (fun k => l.length - k) 0 (by simp) (weak_mk ?_ ?_) fun k hk => ?_
 · (try simp only [bK1, bK2, bK3, bK4, bK5, bK6, bK7, bK8]); simp (maxSteps := 10000000) (disch := omega) only [go_sem, ↓reduceIte, Nat.reduceEqDiff, Nat.reduceSub, Nat.reduceLeDiff, Nat.reduceAdd, Int.reduceEq, Int.reduceLT, Int.reduceLE]
 · (try simp only [bK1, bK2, bK3, bK4, bK5, bK6, bK7, bK8]); simp (maxSteps := 10000000) (disch := omega) only [go_sem, ↓reduceIte, Nat.reduceEqDiff, Nat.reduceSub, Nat.reduceLeDiff, Nat.reduceAdd, Int.reduceEq, Int.reduceLT, Int.reduceLE]
 obtain ⟨hk1, hk2⟩ := hk
 by_cases hlt : k < l.length
 · have hlm : k < m.length := by omega
   have hy2 : y = 21 := l1.resolve_left fun e => by subst e; simp at hlt
   have hz2 : z = 21 := m1.resolve_left fun e => by subst e; simp at hlm
   subst hy2 hz2
   have he : (l.map evE)[k]? = some (evE l[k]) := by simp [hlt]
   have hf : (m.map evE)[k]? = some (evE m[k]) := by simp [hlm]
   have ha := l3 _ (List.getElem_mem hlt)
   have hb := m3 _ (List.getElem_mem hlm)
   (try simp only [bK1, bK2, bK3, bK4, bK5, bK6, bK7, bK8]); simp (maxSteps := 10000000) (disch := omega) only [stSameEv, List.length_map, he, hf, ld_ev, go_sem, ↓reduceIte, Nat.reduceEqDiff, Nat.reduceSub, Nat.reduceLeDiff, Nat.reduceAdd, Int.reduceEq, Int.reduceLT, Int.reduceLE]
   refine call_with (okSameR8 l[k] m[k] ⟨ha.1, ha.2.1, ha.2.2.1, ha.2.2.2.1⟩ ⟨hb.1, hb.2.1, hb.2.2.1, hb.2.2.2.1⟩) ?_
   by_cases hs : sameB l[k] m[k] = true
   · (try simp only [bK1, bK2, bK3, bK4, bK5, bK6, bK7, bK8]); simp (maxSteps := 10000000) (disch := omega) only [hs, go_sem, ↓reduceIte, Nat.reduceEqDiff, Nat.reduceSub, Nat.reduceLeDiff, Nat.reduceAdd, Int.reduceEq, Int.reduceLT, Int.reduceLE]
     refine loop_next (k + 1) _ _ rfl ⟨by omega, fun j h1 h2 hjk => ?_⟩ (by omega) ?_ ?_
     · by_cases e : j = k
       · subst e; exact hs
       · exact hk2 j h1 h2 (by omega)
     · (try simp only [bK1, bK2, bK3, bK4, bK5, bK6, bK7, bK8]); simp (maxSteps := 10000000) (disch := omega) only [go_sem, ↓reduceIte, Nat.reduceEqDiff, Nat.reduceSub, Nat.reduceLeDiff, Nat.reduceAdd, Int.reduceEq, Int.reduceLT, Int.reduceLE]
     · (try simp only [bK1, bK2, bK3, bK4, bK5, bK6, bK7, bK8]); simp (maxSteps := 10000000) (disch := omega) only [go_sem, ↓reduceIte, Nat.reduceEqDiff, Nat.reduceSub, Nat.reduceLeDiff, Nat.reduceAdd, Int.reduceEq, Int.reduceLT, Int.reduceLE]
   · have hs' : sameB l[k] m[k] = false := by simpa using hs
     have e : sameL l m = false := by
      rw [e0, List.all_eq_false]
      exact ⟨(l[k], m[k]), List.mem_iff_getElem.2 ⟨k, by simp; omega, by simp⟩, by simp [hs']⟩
     (try simp only [bK1, bK2, bK3, bK4, bK5, bK6, bK7, bK8]); simp (maxSteps := 10000000) (disch := omega) only [hs', e, go_sem, ↓reduceIte, Nat.reduceEqDiff, Nat.reduceSub, Nat.reduceLeDiff, Nat.reduceAdd, Int.reduceEq, Int.reduceLT, Int.reduceLE]
 · obtain rfl : k = l.length := by omega
   have e : sameL l m = true := by
    rw [e0, List.all_eq_true]
    intro p hp
    obtain ⟨j, hj, rfl⟩ := List.getElem_of_mem hp
    have hj' : j < l.length ∧ j < m.length := by simp at hj; omega
    rw [List.getElem_zip]
    exact hk2 j hj'.1 hj'.2 hj'.1
   (try simp only [bK1, bK2, bK3, bK4, bK5, bK6, bK7, bK8]); simp (maxSteps := 10000000) (disch := omega) only [stSameEv, List.length_map, e, go_sem, ↓reduceIte, Nat.reduceEqDiff, Nat.reduceSub, Nat.reduceLeDiff, Nat.reduceAdd, Int.reduceEq, Int.reduceLT, Int.reduceLE]
noncomputable def sameM (a b : Msg) : Bool := decide (a.k = b.k) && (decide (a.fr = b.fr) && (decide (a.to = b.to) && (decide (vEq a.kn b.kn) && (decide (tEq a.tb b.tb) && sameL a.evs b.evs))))
set_option maxHeartbeats 8000000 in
theorem okSameM (a b : Msg) (ha : mv a) (hb : mv b) {h d} : FunOk Try.prog 15 [.vec 76 (msgE a), .vec 76 (msgE b)] h d (.pv (.b (sameM a b))) [] := by
 refine fun_pure mixed fn15 (by simp) rfl rfl fun F => ?_
 by_cases c1 : a.k = b.k
 rotate_left
 · have e : sameM a b = false := by simp [sameM, c1]
   (try simp only [bK1, bK2, bK3, bK4, bK5, bK6, bK7, bK8]); simp (maxSteps := 10000000) (disch := omega) only [ir15, c1, e, go_sem, ↓reduceIte, Nat.reduceEqDiff, Nat.reduceSub, Nat.reduceLeDiff, Nat.reduceAdd, Int.reduceEq, Int.reduceLT, Int.reduceLE]
 by_cases c2 : a.fr = b.fr
 rotate_left
 · have e : sameM a b = false := by simp [sameM, c2]
   (try simp only [bK1, bK2, bK3, bK4, bK5, bK6, bK7, bK8]); simp (maxSteps := 10000000) (disch := omega) only [ir15, c1, c2, e, go_sem, ↓reduceIte, Nat.reduceEqDiff, Nat.reduceSub, Nat.reduceLeDiff, Nat.reduceAdd, Int.reduceEq, Int.reduceLT, Int.reduceLE]
 by_cases c3 : a.to = b.to
 rotate_left
 · have e : sameM a b = false := by simp [sameM, c3]
   (try simp only [bK1, bK2, bK3, bK4, bK5, bK6, bK7, bK8]); simp (maxSteps := 10000000) (disch := omega) only [ir15, c1, c2, c3, e, go_sem, ↓reduceIte, Nat.reduceEqDiff, Nat.reduceSub, Nat.reduceLeDiff, Nat.reduceAdd, Int.reduceEq, Int.reduceLT, Int.reduceLE]
 by_cases c4 : vEq a.kn b.kn
 rotate_left
 · have e : sameM a b = false := by simp [sameM, c4]
   (try simp only [bK1, bK2, bK3, bK4, bK5, bK6, bK7, bK8]); simp (maxSteps := 10000000) (disch := omega) only [ir15, c1, c2, c3, c4, fits_vE, peq_vE, e, go_sem, ↓reduceIte, Nat.reduceEqDiff, Nat.reduceSub, Nat.reduceLeDiff, Nat.reduceAdd, Int.reduceEq, Int.reduceLT, Int.reduceLE]
 by_cases c5 : tEq a.tb b.tb
 rotate_left
 · have e : sameM a b = false := by simp [sameM, c5]
   (try simp only [bK1, bK2, bK3, bK4, bK5, bK6, bK7, bK8]); simp (maxSteps := 10000000) (disch := omega) only [ir15, c1, c2, c3, c4, c5, fits_vE, peq_vE, fits_tE, peq_tE, e, go_sem, ↓reduceIte, Nat.reduceEqDiff, Nat.reduceSub, Nat.reduceLeDiff, Nat.reduceAdd, Int.reduceEq, Int.reduceLT, Int.reduceLE]
 have e : sameM a b = sameL a.evs b.evs := by simp [sameM, c1, c2, c3, c4, c5]
 (try simp only [bK1, bK2, bK3, bK4, bK5, bK6, bK7, bK8]); simp (maxSteps := 10000000) (disch := omega) only [ir15, c1, c2, c3, c4, c5, fits_vE, peq_vE, fits_tE, peq_tE, go_sem, ↓reduceIte, Nat.reduceEqDiff, Nat.reduceSub, Nat.reduceLeDiff, Nat.reduceAdd, Int.reduceEq, Int.reduceLT, Int.reduceLE]
 refine call_with (okSameEv ⟨ha.1, ha.2.1, fun e he => (ha.2.2.1 e he).1⟩ ⟨hb.1, hb.2.1, fun e he => (hb.2.2.1 e he).1⟩) ?_
 (try simp only [bK1, bK2, bK3, bK4, bK5, bK6, bK7, bK8]); simp (maxSteps := 10000000) (disch := omega) only [e, go_sem, ↓reduceIte, Nat.reduceEqDiff, Nat.reduceSub, Nat.reduceLeDiff, Nat.reduceAdd, Int.reduceEq, Int.reduceLT, Int.reduceLE]
theorem okSameMA (a b : Msg) (ha : mv a) (hb : mv b) {h d} : FunOk Try.prog 15 [.agg (segM a), .vec 76 (msgE b)] h d (.pv (.b (sameM a b))) [] :=
 (okSameM a b ha hb).imp ⟨imp_agg (segM_cells a) (msgE_len a), Imp.refl _, trivial⟩ (by simp [tops, tn])
end Go.Proofs.Ytfkmlmckihmihaa.Fw
namespace Go.Proofs.Ytfkmlmckihmihaa.Fw
open Go.RowKit Go.Proofs
mutual
theorem rn_cl {π : Nat → Nat} : ∀ {x : SV}, x.closed = true → x.rn π = x
 | .pv _, _ => rfl
 | .vec _ _, _ => rfl
 | .pi _ _ _ _, _ => rfl
 | .dead, _ => rfl
 | .agg l, h => by simp only [SV.closed] at h; simp only [SV.rn, rnL_cl h]
 | .tup l, h => by simp only [SV.closed] at h; simp only [SV.rn, rnL_cl h]
 | .fn f l, h => by simp only [SV.closed] at h; simp only [SV.rn, rnL_cl h]
 | .p _ _, h => by simp [SV.closed] at h
 | .ps _ _, h => by simp [SV.closed] at h
 | .pr _ _ _ _, h => by simp [SV.closed] at h
 | .os _, h => by simp [SV.closed] at h
 | .ov _ _ _ _, h => by simp [SV.closed] at h
theorem rnL_cl {π : Nat → Nat} : ∀ {l : List SV}, SV.closedL l = true → SV.rnL π l = l
 | [], _ => rfl
 | x :: l, h => by
  simp only [SV.closedL, Bool.and_eq_true] at h
  simp only [SV.rnL, rn_cl h.1, rnL_cl h.2]
end
mutual
theorem tn_cl : ∀ {x : SV}, x.closed = true → tn x = []
 | .pv _, _ => rfl
 | .vec _ _, _ => rfl
 | .pi _ _ _ _, _ => rfl
 | .dead, _ => rfl
 | .agg l, h => rfl
 | .tup l, h => rfl
 | .fn f l, h => by simp only [SV.closed] at h; simp only [tn, tops_cl h]
 | .p _ _, h => by simp [SV.closed] at h
 | .ps _ _, h => by simp [SV.closed] at h
 | .pr _ _ _ _, h => by simp [SV.closed] at h
 | .os _, h => by simp [SV.closed] at h
 | .ov _ _ _ _, h => by simp [SV.closed] at h
theorem tops_cl : ∀ {l : List SV}, SV.closedL l = true → tops l = []
 | [], _ => rfl
 | x :: l, h => by
  simp only [SV.closedL, Bool.and_eq_true] at h
  simp only [tops, tn_cl h.1, tops_cl h.2, List.append_nil]
end
theorem sw1_a (a m : Nat) : sw1 a m a = m := if_pos rfl
theorem FunOk.io {P : Program} {f : Nat} {a : List SV} {c c' x : SV} (hf : ∀ h d, h 900 = some (.var c) → FunOk P f (.p 900 0 :: a) h d x [.upd 900 (.var c')]) (ha : SV.closedL a = true) (hx : x.closed = true) (hc : c.closed = true) (hc' : c'.closed = true) {g : Nat} {h : Nat → Option Blk} {d : Nat} (hg : h g = some (.var c)) :
 FunOk P f (.p g 0 :: a) h d x [.upd g (.var c')] := by
 have h1 := (hf (fun k => h (sw1 900 g k)) d (by show h (sw1 900 g 900) = _; rw [sw1_a]; exact hg)).rn (π := sw1 900 g) (sw1_inv 900 g) (d' := d)
 simp only [SV.rnL, SV.rn, HU.rn, Blk.rn, List.map_cons, List.map_nil, sw1_a, rnL_cl ha, rn_cl hx, rn_cl hc'] at h1
 refine h1.at fun n hn => ?_
 simp only [tops, tn, tops_cl ha, List.append_nil, List.mem_singleton] at hn
 subst hn
 simp only [sw1_inv, hg, Option.map_some, Blk.rn, rn_cl hc]
theorem FunOk.ownAny {P : Program} {f : Nat} {a : List SV} {sz sz' : Nat} {es es' : List (List PV)} (hf : ∀ h d, h 900 = some (.row sz es) → FunOk P f (.os 900 :: a) h d (.os d) [.del 900, .new d (.row sz' es')]) (ha : SV.closedL a = true) {g : Nat} {h : Nat → Option Blk} {d : Nat} (hg : h g = some (.row sz es)) :
 FunOk P f (.os g :: a) h d (.os d) [.del g, .new d (.row sz' es')] := by
 have h1 := (hf (fun k => h (sw1 900 g k)) (sw1 900 g d) (by show h (sw1 900 g 900) = _; rw [sw1_a]; exact hg)).rn (π := sw1 900 g) (sw1_inv 900 g) (d' := d)
 simp only [SV.rnL, SV.rn, HU.rn, Blk.rn, List.map_cons, List.map_nil, sw1_a, rnL_cl ha, sw1_inv] at h1
 refine h1.at fun n hn => ?_
 simp only [tops, tn, tops_cl ha, List.append_nil, List.mem_singleton] at hn
 subst hn
 simp only [sw1_inv, hg, Option.map_some, Blk.rn]
def bagV (f : Bool) (z : Nat) (L : List (List UInt8)) (most : Int) : SV := .agg [.pv (.sl f z (L.map bE)), .pv (.i .i64 most)]
theorem okNewB (most : Int) {h d} : FunOk Try.prog 11 [.pv (.i .i64 most)] h d (.p d 0) [.new d (.var (bagV true 0 [] (max 0 most)))] := by
 refine fun_var mixed fn11 (by simp) rfl rfl fun F => ?_
 (try simp only [bK1, bK2, bK3, bK4, bK5, bK6, bK7, bK8]); simp (maxSteps := 10000000) (disch := omega) only [ir11, go_sem, ↓reduceIte, Nat.reduceEqDiff, Nat.reduceSub, Nat.reduceLeDiff, Nat.reduceAdd, Int.reduceEq, Int.reduceLT, Int.reduceLE]
 exact ⟨6, rfl, if_pos rfl⟩
theorem okLenB {f : Bool} {z : Nat} {L : List (List UInt8)} {most : Int} {g : Nat} {h d} (hg : h g = some (.var (bagV f z L most))) : FunOk Try.prog 16 [.p g 0] h d (.pv (.i .i64 L.length)) [.upd g (.var (bagV f z L most))] := by
 refine FunOk.io (fun h d hg => ?_) rfl rfl rfl rfl hg
 refine fun_io1 (g := 900) mixed fn16 (by simp) (by simp [tops, tn]) (by simp [tops, tn]) hg rfl (by simp [Blk.ptr, SV.kill]) rfl (fun _ => rfl) fun F => ?_
 (try simp only [bK1, bK2, bK3, bK4, bK5, bK6, bK7, bK8]); simp (maxSteps := 10000000) (disch := omega) only [ir16, bagV, Blk.ptr, go_sem, ↓reduceIte, Nat.reduceEqDiff, Nat.reduceSub, Nat.reduceLeDiff, Nat.reduceAdd, Int.reduceEq, Int.reduceLT, Int.reduceLE]
 refine ⟨_, .same _, ?_⟩
 (try simp only [bK1, bK2, bK3, bK4, bK5, bK6, bK7, bK8]); simp (maxSteps := 10000000) (disch := omega) only [go_sem, ↓reduceIte, Nat.reduceEqDiff, Nat.reduceSub, Nat.reduceLeDiff, Nat.reduceAdd, Int.reduceEq, Int.reduceLT, Int.reduceLE]
 exact ⟨900, rfl, if_pos rfl⟩
def mayB (L : List (List UInt8)) (i : Int) : Int := if 0 ≤ i ∧ i < L.length then 0 else 2
theorem okMayB {f : Bool} {z : Nat} {L : List (List UInt8)} {most i : Int} {g : Nat} {h d} (hg : h g = some (.var (bagV f z L most))) : FunOk Try.prog 31 [.p g 0, .pv (.i .i64 i)] h d (.pv (.i .i64 (mayB L i))) [.upd g (.var (bagV f z L most))] := by
 refine FunOk.io (fun h d hg => ?_) rfl rfl rfl rfl hg
 refine fun_io1 (g := 900) mixed fn31 (by simp) (by simp [tops, tn]) (by simp [tops, tn]) hg rfl (by simp [Blk.ptr, SV.kill]) rfl (fun _ => rfl) fun F => ?_
 by_cases h0 : i < 0
 · have e : mayB L i = 2 := if_neg (by omega)
   (try simp only [bK1, bK2, bK3, bK4, bK5, bK6, bK7, bK8]); simp (maxSteps := 10000000) (disch := omega) only [ir31, bagV, Blk.ptr, h0, go_sem, ↓reduceIte, Nat.reduceEqDiff, Nat.reduceSub, Nat.reduceLeDiff, Nat.reduceAdd, Int.reduceEq, Int.reduceLT, Int.reduceLE]
   refine ⟨_, .same _, ?_⟩
   (try simp only [bK1, bK2, bK3, bK4, bK5, bK6, bK7, bK8]); simp (maxSteps := 10000000) (disch := omega) only [e, go_sem, ↓reduceIte, Nat.reduceEqDiff, Nat.reduceSub, Nat.reduceLeDiff, Nat.reduceAdd, Int.reduceEq, Int.reduceLT, Int.reduceLE]
   exact ⟨900, rfl, if_pos rfl⟩
 by_cases h1 : (L.length : Int) ≤ i
 · have e : mayB L i = 2 := if_neg (by omega)
   (try simp only [bK1, bK2, bK3, bK4, bK5, bK6, bK7, bK8]); simp (maxSteps := 10000000) (disch := omega) only [ir31, bagV, Blk.ptr, h0, h1, List.length_map, go_sem, ↓reduceIte, Nat.reduceEqDiff, Nat.reduceSub, Nat.reduceLeDiff, Nat.reduceAdd, Int.reduceEq, Int.reduceLT, Int.reduceLE]
   refine ⟨_, .same _, ?_⟩
   (try simp only [bK1, bK2, bK3, bK4, bK5, bK6, bK7, bK8]); simp (maxSteps := 10000000) (disch := omega) only [e, go_sem, ↓reduceIte, Nat.reduceEqDiff, Nat.reduceSub, Nat.reduceLeDiff, Nat.reduceAdd, Int.reduceEq, Int.reduceLT, Int.reduceLE]
   exact ⟨900, rfl, if_pos rfl⟩
 · have e : mayB L i = 0 := if_pos (by omega)
   (try simp only [bK1, bK2, bK3, bK4, bK5, bK6, bK7, bK8]); simp (maxSteps := 10000000) (disch := omega) only [ir31, bagV, Blk.ptr, h0, h1, List.length_map, go_sem, ↓reduceIte, Nat.reduceEqDiff, Nat.reduceSub, Nat.reduceLeDiff, Nat.reduceAdd, Int.reduceEq, Int.reduceLT, Int.reduceLE]
   refine ⟨_, .same _, ?_⟩
   (try simp only [bK1, bK2, bK3, bK4, bK5, bK6, bK7, bK8]); simp (maxSteps := 10000000) (disch := omega) only [e, go_sem, ↓reduceIte, Nat.reduceEqDiff, Nat.reduceSub, Nat.reduceLeDiff, Nat.reduceAdd, Int.reduceEq, Int.reduceLT, Int.reduceLE]
   exact ⟨900, rfl, if_pos rfl⟩
theorem okClipB {f : Bool} {z : Nat} {es : List (List PV)} (hz : es = [] ∨ z = 1) {h d} : FunOk Try.prog 30 [.pv (.sl f z es)] h d (.pv (.sl true z es)) [] := by
 refine fun_pure mixed fn30 (by simp) rfl rfl fun F => ?_
 have e := List.take_length (l := es)
 (try simp only [bK1, bK2, bK3, bK4, bK5, bK6, bK7, bK8]); simp (maxSteps := 10000000) (disch := omega) only [ir30, hz, e, List.drop_zero, go_sem, ↓reduceIte, Nat.reduceEqDiff, Nat.reduceSub, Nat.reduceLeDiff, Nat.reduceAdd, Int.reduceEq, Int.reduceLT, Int.reduceLE]
theorem okCloneB {f : Bool} {z : Nat} {es : List (List PV)} (hne : es ≠ []) (hz : es = [] ∨ z = 1) (hn : es.length ≤ 100000) {h d} : FunOk Try.prog 33 [.pv (.sl f z es)] h d (.os d) [.new d (.row 1 es)] := by
 refine fun_row mixed fn33 (by simp) rfl (.inl rfl) fun F => ?_
 (try simp only [bK1, bK2, bK3, bK4, bK5, bK6, bK7, bK8]); simp (maxSteps := 10000000) (disch := omega) only [ir33, hz, go_sem, ↓reduceIte, Nat.reduceEqDiff, Nat.reduceSub, Nat.reduceLeDiff, Nat.reduceAdd, Int.reduceEq, Int.reduceLT, Int.reduceLE]
 intro b hb
 have hb' := hb hne
 subst hb'
 (try simp only [bK1, bK2, bK3, bK4, bK5, bK6, bK7, bK8]); simp (maxSteps := 10000000) (disch := omega) only [hz, go_sem, ↓reduceIte, Nat.reduceEqDiff, Nat.reduceSub, Nat.reduceLeDiff, Nat.reduceAdd, Int.reduceEq, Int.reduceLT, Int.reduceLE]
theorem okDelB {es : List (List PV)} {i : Nat} (hi : i < es.length) (hn : es.length ≤ 100000) {g : Nat} {h d} (hg : h g = some (.row 1 es)) : FunOk Try.prog 32 [.os g, .pv (.i .i64 i), .pv (.i .i64 ((i : Int) + 1))] h d (.os d) [.del g, .new d (.row 1 (es.take i ++ es.drop (i + 1)))] := by
 refine FunOk.ownAny (fun h d hg => ?_) rfl hg
 refine fun_ownV mixed fn32 (by simp) rfl fun F => ?_
 have n1 : ¬ (i : Int) = (i : Int) + 1 := by omega
 have ei : ((i : Int) + 1).toNat = i + 1 := by omega
 have hA : (es.take i ++ es.drop (i + 1)).length = i + (es.drop (i + 1)).length := by simp; omega
 (try simp only [bK1, bK2, bK3, bK4, bK5, bK6, bK7, bK8]); simp (maxSteps := 10000000) (disch := omega) only [ir32, hg, n1, ei, go_sem, ↓reduceIte, Nat.reduceEqDiff, Nat.reduceSub, Nat.reduceLeDiff, Nat.reduceAdd, Int.reduceEq, Int.reduceLT, Int.reduceLE]
 refine ⟨by simp; omega, by simp; omega, by simp; omega, 900, _, _, rfl, if_pos rfl, ?_⟩
 rw [List.take_left' hA, List.append_assoc, List.take_left' hA]
theorem mkOr_sgM (m : Msg) (K : KK) : mkOr (cut (segM m) 0 76) true (some (msgE m)) 0 76 K = K (.agg (segM m)) [] := (rfl)
theorem okAtB_bad {f : Bool} {z : Nat} {L : List (List UInt8)} {most i : Int} (hi : ¬ (0 ≤ i ∧ i < L.length)) {g : Nat} {h d} (hg : h g = some (.var (bagV f z L most))) : FunOk Try.prog 21 [.p g 0, .pv (.i .i64 i)] h d (.tup [.agg seg0, .pv (.i .i64 2)]) [.upd g (.var (bagV f z L most))] := by
 refine FunOk.io (fun h d hg => ?_) rfl rfl rfl rfl hg
 refine fun_io1 (g := 900) mixed fn21 (by simp) (by simp [tops, tn]) (by simp [tops, tn]) hg rfl (by simp [Blk.ptr, SV.kill]) rfl (fun _ => rfl) fun F => ?_
 have e : mayB L i = 2 := if_neg hi
 (try simp only [bK1, bK2, bK3, bK4, bK5, bK6, bK7, bK8]); simp (maxSteps := 10000000) (disch := omega) only [ir21, Blk.ptr, go_sem, ↓reduceIte, Nat.reduceEqDiff, Nat.reduceSub, Nat.reduceLeDiff, Nat.reduceAdd, Int.reduceEq, Int.reduceLT, Int.reduceLE]
 refine call_with (okMayB (by simp [mk, lk]; rfl)) ?_
 (try simp only [bK1, bK2, bK3, bK4, bK5, bK6, bK7, bK8]); simp (maxSteps := 10000000) (disch := omega) only [e, go_sem, ↓reduceIte, Nat.reduceEqDiff, Nat.reduceSub, Nat.reduceLeDiff, Nat.reduceAdd, Int.reduceEq, Int.reduceLT, Int.reduceLE]
 refine ⟨_, .same _, ?_⟩
 (try simp only [bK1, bK2, bK3, bK4, bK5, bK6, bK7, bK8]); simp (maxSteps := 10000000) (disch := omega) only [go_sem, ↓reduceIte, Nat.reduceEqDiff, Nat.reduceSub, Nat.reduceLeDiff, Nat.reduceAdd, Int.reduceEq, Int.reduceLT, Int.reduceLE]
 exact ⟨900, rfl, rfl⟩
theorem okAtB {f : Bool} {z : Nat} {L : List (List UInt8)} {most : Int} {k : Nat} {m : Msg} (hz : L = [] ∨ z = 1) (hk : L[k]? = some (writeM m)) (hm : mv m) (hc : checkM m = true) {g : Nat} {h d} (hg : h g = some (.var (bagV f z L most))) : FunOk Try.prog 21 [.p g 0, .pv (.i .i64 k)] h d (.tup [.agg (segM (canM m)), .pv (.i .i64 0)]) [.upd g (.var (bagV f z L most))] := by
 refine FunOk.io (fun h d hg => ?_) rfl rfl rfl rfl hg
 refine fun_io1 (g := 900) mixed fn21 (by simp) (by simp [tops, tn]) (by simp [tops, tn]) hg rfl (by simp [Blk.ptr, SV.kill]) rfl (fun _ => rfl) fun F => ?_
 have hlt := (List.getElem?_eq_some_iff.1 hk).1
 have e : mayB L k = 0 := if_pos (by omega)
 have hz1 : z = 1 := hz.resolve_left fun e => by subst e; simp at hlt
 subst hz1
 have he : (L.map bE)[k]? = some [.sl false 1 (bytesE (writeM m))] := by rw [List.getElem?_map, hk]; rfl
 (try simp only [bK1, bK2, bK3, bK4, bK5, bK6, bK7, bK8]); simp (maxSteps := 10000000) (disch := omega) only [ir21, Blk.ptr, go_sem, ↓reduceIte, Nat.reduceEqDiff, Nat.reduceSub, Nat.reduceLeDiff, Nat.reduceAdd, Int.reduceEq, Int.reduceLT, Int.reduceLE]
 refine call_with (okMayB (by simp [mk, lk]; rfl)) ?_
 (try simp only [bK1, bK2, bK3, bK4, bK5, bK6, bK7, bK8]); simp (maxSteps := 10000000) (disch := omega) only [e, bagV, List.length_map, he, ld_sl, go_sem, ↓reduceIte, Nat.reduceEqDiff, Nat.reduceSub, Nat.reduceLeDiff, Nat.reduceAdd, Int.reduceEq, Int.reduceLT, Int.reduceLE]
 refine call_with (okReadM m hm hc) ?_
 (try simp only [bK1, bK2, bK3, bK4, bK5, bK6, bK7, bK8]); simp (maxSteps := 10000000) (disch := omega) only [go_sem, ↓reduceIte, Nat.reduceEqDiff, Nat.reduceSub, Nat.reduceLeDiff, Nat.reduceAdd, Int.reduceEq, Int.reduceLT, Int.reduceLE]
 refine ⟨_, .same _, ?_⟩
 (try simp only [bK1, bK2, bK3, bK4, bK5, bK6, bK7, bK8]); simp (maxSteps := 10000000) (disch := omega) only [segM_cells, mkOr_sgM, go_sem, ↓reduceIte, Nat.reduceEqDiff, Nat.reduceSub, Nat.reduceLeDiff, Nat.reduceAdd, Int.reduceEq, Int.reduceLT, Int.reduceLE]
 exact ⟨900, rfl, rfl⟩
theorem okPutB_bad {f : Bool} {z : Nat} {L : List (List UInt8)} {most : Int} (m : Msg) (hm : mv m) (hc : checkM m = false) {g : Nat} {h d} (hg : h g = some (.var (bagV f z L most))) : FunOk Try.prog 12 [.p g 0, .vec 76 (msgE m)] h d (.pv (.i .i64 7)) [.upd g (.var (bagV f z L most))] := by
 refine FunOk.io (fun h d hg => ?_) rfl rfl rfl rfl hg
 refine fun_io1 (g := 900) mixed fn12 (by simp) (by simp [tops, tn]) (by simp [tops, tn]) hg rfl (by simp [Blk.ptr, SV.kill]) rfl (fun _ => rfl) fun F => ?_
 (try simp only [bK1, bK2, bK3, bK4, bK5, bK6, bK7, bK8]); simp (maxSteps := 10000000) (disch := omega) only [ir12, Blk.ptr, go_sem, ↓reduceIte, Nat.reduceEqDiff, Nat.reduceSub, Nat.reduceLeDiff, Nat.reduceAdd, Int.reduceEq, Int.reduceLT, Int.reduceLE]
 refine call_with (okWriteM_bad m hm hc) ?_
 (try simp only [bK1, bK2, bK3, bK4, bK5, bK6, bK7, bK8]); simp (maxSteps := 10000000) (disch := omega) only [go_sem, ↓reduceIte, Nat.reduceEqDiff, Nat.reduceSub, Nat.reduceLeDiff, Nat.reduceAdd, Int.reduceEq, Int.reduceLT, Int.reduceLE]
 refine ⟨_, .same _, ?_⟩
 (try simp only [bK1, bK2, bK3, bK4, bK5, bK6, bK7, bK8]); simp (maxSteps := 10000000) (disch := omega) only [go_sem, ↓reduceIte, Nat.reduceEqDiff, Nat.reduceSub, Nat.reduceLeDiff, Nat.reduceAdd, Int.reduceEq, Int.reduceLT, Int.reduceLE]
 exact ⟨900, rfl, rfl⟩
theorem okPutB {f : Bool} {z : Nat} {L : List (List UInt8)} {most : Int} (m : Msg) (hm : mv m) (hc : checkM m = true) (hf : ¬ most ≤ L.length) (hz : L = [] ∨ z = 1) (hn : L.length ≤ 1000) {g : Nat} {h d} (hg : h g = some (.var (bagV f z L most))) : FunOk Try.prog 12 [.p g 0, .vec 76 (msgE m)] h d (.pv (.i .i64 0)) [.upd g (.var (bagV false 1 (L ++ [writeM m]) most))] := by
 refine FunOk.io (fun h d hg => ?_) rfl rfl rfl rfl hg
 refine fun_io1 (g := 900) mixed fn12 (by simp) (by simp [tops, tn]) (by simp [tops, tn]) hg rfl (by simp [Blk.ptr, SV.kill]) rfl (fun _ => rfl) fun F => ?_
 have hz' : L.map bE = [] ∨ z = 1 := hz.imp_left fun e => by rw [e]; rfl
 (try simp only [bK1, bK2, bK3, bK4, bK5, bK6, bK7, bK8]); simp (maxSteps := 10000000) (disch := omega) only [ir12, Blk.ptr, go_sem, ↓reduceIte, Nat.reduceEqDiff, Nat.reduceSub, Nat.reduceLeDiff, Nat.reduceAdd, Int.reduceEq, Int.reduceLT, Int.reduceLE]
 refine call_with (okWriteM m hm hc) ?_
 (try simp only [bK1, bK2, bK3, bK4, bK5, bK6, bK7, bK8]); simp (maxSteps := 10000000) (disch := omega) only [bagV, List.length_map, hf, go_sem, ↓reduceIte, Nat.reduceEqDiff, Nat.reduceSub, Nat.reduceLeDiff, Nat.reduceAdd, Int.reduceEq, Int.reduceLT, Int.reduceLE]
 refine call_with (okClipB hz') ?_
 have ne : ([[PV.sl false 1 (bytesE (writeM m))]] = ([] : List (List PV))) = False := by simp
 have em : L.map bE ++ [[PV.sl false 1 (bytesE (writeM m))]] = (L ++ [writeM m]).map bE := by simp [bE]
 (try simp only [bK1, bK2, bK3, bK4, bK5, bK6, bK7, bK8]); simp (maxSteps := 10000000) (disch := omega) only [List.length_map, hz', ne, em, go_sem, ↓reduceIte, Nat.reduceEqDiff, Nat.reduceSub, Nat.reduceLeDiff, Nat.reduceAdd, Int.reduceEq, Int.reduceLT, Int.reduceLE]
 refine ⟨_, wk_frz 37 rfl (.same _), ?_⟩
 (try simp only [bK1, bK2, bK3, bK4, bK5, bK6, bK7, bK8]); simp (maxSteps := 10000000) (disch := omega) only [go_sem, ↓reduceIte, Nat.reduceEqDiff, Nat.reduceSub, Nat.reduceLeDiff, Nat.reduceAdd, Int.reduceEq, Int.reduceLT, Int.reduceLE]
 exact ⟨900, rfl, rfl⟩
theorem okLateB_bad {f : Bool} {z : Nat} {L : List (List UInt8)} {most i : Int} (hi : ¬ (0 ≤ i ∧ i < L.length)) {g : Nat} {h d} (hg : h g = some (.var (bagV f z L most))) : FunOk Try.prog 13 [.p g 0, .pv (.i .i64 i)] h d (.pv (.i .i64 2)) [.upd g (.var (bagV f z L most))] := by
 refine FunOk.io (fun h d hg => ?_) rfl rfl rfl rfl hg
 refine fun_io1 (g := 900) mixed fn13 (by simp) (by simp [tops, tn]) (by simp [tops, tn]) hg rfl (by simp [Blk.ptr, SV.kill]) rfl (fun _ => rfl) fun F => ?_
 have e : mayB L i = 2 := if_neg hi
 (try simp only [bK1, bK2, bK3, bK4, bK5, bK6, bK7, bK8]); simp (maxSteps := 10000000) (disch := omega) only [ir13, Blk.ptr, go_sem, ↓reduceIte, Nat.reduceEqDiff, Nat.reduceSub, Nat.reduceLeDiff, Nat.reduceAdd, Int.reduceEq, Int.reduceLT, Int.reduceLE]
 refine call_with (okMayB (by simp [mk, lk]; rfl)) ?_
 (try simp only [bK1, bK2, bK3, bK4, bK5, bK6, bK7, bK8]); simp (maxSteps := 10000000) (disch := omega) only [e, go_sem, ↓reduceIte, Nat.reduceEqDiff, Nat.reduceSub, Nat.reduceLeDiff, Nat.reduceAdd, Int.reduceEq, Int.reduceLT, Int.reduceLE]
 refine ⟨_, .same _, ?_⟩
 (try simp only [bK1, bK2, bK3, bK4, bK5, bK6, bK7, bK8]); simp (maxSteps := 10000000) (disch := omega) only [go_sem, ↓reduceIte, Nat.reduceEqDiff, Nat.reduceSub, Nat.reduceLeDiff, Nat.reduceAdd, Int.reduceEq, Int.reduceLT, Int.reduceLE]
 exact ⟨900, rfl, rfl⟩
theorem okLateB {f : Bool} {z : Nat} {L : List (List UInt8)} {most : Int} {k : Nat} {b : List UInt8} (hz : L = [] ∨ z = 1) (hk : L[k]? = some b) (hn : L.length ≤ 1000) {g : Nat} {h d} (hg : h g = some (.var (bagV f z L most))) : FunOk Try.prog 13 [.p g 0, .pv (.i .i64 k)] h d (.pv (.i .i64 0)) [.upd g (.var (bagV false 1 (L.take k ++ L.drop (k + 1) ++ [b]) most))] := by
 refine FunOk.io (fun h d hg => ?_) rfl rfl rfl rfl hg
 refine fun_io1 (g := 900) mixed fn13 (by simp) (by simp [tops, tn]) (by simp [tops, tn]) hg rfl (by simp [Blk.ptr, SV.kill]) rfl (fun _ => rfl) fun F => ?_
 have hlt := (List.getElem?_eq_some_iff.1 hk).1
 have e : mayB L k = 0 := if_pos (by omega)
 have hz1 : z = 1 := hz.resolve_left fun e => by subst e; simp at hlt
 subst hz1
 have hne : L.map bE ≠ [] := by intro e; rw [List.map_eq_nil_iff] at e; subst e; simp at hlt
 have he : (L.map bE)[k]? = some [.sl false 1 (bytesE b)] := by rw [List.getElem?_map, hk]; rfl
 have hml : (L.map bE).length ≤ 100000 := by simp; omega
 have hmk : k < (L.map bE).length := by simpa using hlt
 (try simp only [bK1, bK2, bK3, bK4, bK5, bK6, bK7, bK8]); simp (maxSteps := 10000000) (disch := omega) only [ir13, Blk.ptr, go_sem, ↓reduceIte, Nat.reduceEqDiff, Nat.reduceSub, Nat.reduceLeDiff, Nat.reduceAdd, Int.reduceEq, Int.reduceLT, Int.reduceLE]
 refine call_with (okMayB (by simp [mk, lk]; rfl)) ?_
 (try simp only [bK1, bK2, bK3, bK4, bK5, bK6, bK7, bK8]); simp (maxSteps := 10000000) (disch := omega) only [e, bagV, List.length_map, he, ld_sl, go_sem, ↓reduceIte, Nat.reduceEqDiff, Nat.reduceSub, Nat.reduceLeDiff, Nat.reduceAdd, Int.reduceEq, Int.reduceLT, Int.reduceLE]
 refine call_with (okCloneB hne (.inr rfl) hml) ?_
 (try simp only [bK1, bK2, bK3, bK4, bK5, bK6, bK7, bK8]); simp (maxSteps := 10000000) (disch := omega) only [go_sem, ↓reduceIte, Nat.reduceEqDiff, Nat.reduceSub, Nat.reduceLeDiff, Nat.reduceAdd, Int.reduceEq, Int.reduceLT, Int.reduceLE]
 refine call_with (okDelB hmk hml rfl) ?_
 have em : List.take k (L.map bE) ++ List.drop (k + 1) (L.map bE) ++ [[PV.sl false 1 (bytesE b)]] = (L.take k ++ L.drop (k + 1) ++ [b]).map bE := by simp [bE]
 (try simp only [bK1, bK2, bK3, bK4, bK5, bK6, bK7, bK8]); simp (maxSteps := 10000000) (disch := omega) only [List.length_append, List.length_take, List.length_drop, List.length_map, em, go_sem, ↓reduceIte, Nat.reduceEqDiff, Nat.reduceSub, Nat.reduceLeDiff, Nat.reduceAdd, Int.reduceEq, Int.reduceLT, Int.reduceLE]
 refine ⟨_, wk_frz 32 rfl (.same _), ?_⟩
 (try simp only [bK1, bK2, bK3, bK4, bK5, bK6, bK7, bK8]); simp (maxSteps := 10000000) (disch := omega) only [go_sem, ↓reduceIte, Nat.reduceEqDiff, Nat.reduceSub, Nat.reduceLeDiff, Nat.reduceAdd, Int.reduceEq, Int.reduceLT, Int.reduceLE]
 exact ⟨900, rfl, rfl⟩
theorem okTakeB_bad {f : Bool} {z : Nat} {L : List (List UInt8)} {most i : Int} (hi : ¬ (0 ≤ i ∧ i < L.length)) {g : Nat} {h d} (hg : h g = some (.var (bagV f z L most))) : FunOk Try.prog 14 [.p g 0, .pv (.i .i64 i)] h d (.tup [.agg seg0, .pv (.i .i64 2)]) [.upd g (.var (bagV f z L most))] := by
 refine FunOk.io (fun h d hg => ?_) rfl rfl rfl rfl hg
 refine fun_io1 (g := 900) mixed fn14 (by simp) (by simp [tops, tn]) (by simp [tops, tn]) hg rfl (by simp [Blk.ptr, SV.kill]) rfl (fun _ => rfl) fun F => ?_
 (try simp only [bK1, bK2, bK3, bK4, bK5, bK6, bK7, bK8]); simp (maxSteps := 10000000) (disch := omega) only [ir14, Blk.ptr, go_sem, ↓reduceIte, Nat.reduceEqDiff, Nat.reduceSub, Nat.reduceLeDiff, Nat.reduceAdd, Int.reduceEq, Int.reduceLT, Int.reduceLE]
 refine call_with (okAtB_bad hi (by simp [mk, lk]; rfl)) ?_
 (try simp only [bK1, bK2, bK3, bK4, bK5, bK6, bK7, bK8]); simp (maxSteps := 10000000) (disch := omega) only [go_sem, ↓reduceIte, Nat.reduceEqDiff, Nat.reduceSub, Nat.reduceLeDiff, Nat.reduceAdd, Int.reduceEq, Int.reduceLT, Int.reduceLE]
 refine ⟨_, .same _, ?_⟩
 (try simp only [bK1, bK2, bK3, bK4, bK5, bK6, bK7, bK8]); simp (maxSteps := 10000000) (disch := omega) only [go_sem, ↓reduceIte, Nat.reduceEqDiff, Nat.reduceSub, Nat.reduceLeDiff, Nat.reduceAdd, Int.reduceEq, Int.reduceLT, Int.reduceLE]
 exact ⟨900, rfl, rfl⟩
theorem okTakeB {f : Bool} {z : Nat} {L : List (List UInt8)} {most : Int} {k : Nat} {m : Msg} (hz : L = [] ∨ z = 1) (hk : L[k]? = some (writeM m)) (hm : mv m) (hc : checkM m = true) (hn : L.length ≤ 1000) {g : Nat} {h d} (hg : h g = some (.var (bagV f z L most))) : FunOk Try.prog 14 [.p g 0, .pv (.i .i64 k)] h d (.tup [.agg (segM (canM m)), .pv (.i .i64 0)]) [.upd g (.var (bagV false 1 (L.take k ++ L.drop (k + 1)) most))] := by
 refine FunOk.io (fun h d hg => ?_) rfl rfl rfl rfl hg
 refine fun_io1 (g := 900) mixed fn14 (by simp) (by simp [tops, tn]) (by simp [tops, tn]) hg rfl (by simp [Blk.ptr, SV.kill]) rfl (fun _ => rfl) fun F => ?_
 have hlt := (List.getElem?_eq_some_iff.1 hk).1
 have hz1 : z = 1 := hz.resolve_left fun e => by subst e; simp at hlt
 subst hz1
 have hne : L.map bE ≠ [] := by intro e; rw [List.map_eq_nil_iff] at e; subst e; simp at hlt
 have hml : (L.map bE).length ≤ 100000 := by simp; omega
 have hmk : k < (L.map bE).length := by simpa using hlt
 (try simp only [bK1, bK2, bK3, bK4, bK5, bK6, bK7, bK8]); simp (maxSteps := 10000000) (disch := omega) only [ir14, Blk.ptr, go_sem, ↓reduceIte, Nat.reduceEqDiff, Nat.reduceSub, Nat.reduceLeDiff, Nat.reduceAdd, Int.reduceEq, Int.reduceLT, Int.reduceLE]
 refine call_with (okAtB hz hk hm hc (by simp [mk, lk]; rfl)) ?_
 (try simp only [bK1, bK2, bK3, bK4, bK5, bK6, bK7, bK8]); simp (maxSteps := 10000000) (disch := omega) only [bagV, go_sem, ↓reduceIte, Nat.reduceEqDiff, Nat.reduceSub, Nat.reduceLeDiff, Nat.reduceAdd, Int.reduceEq, Int.reduceLT, Int.reduceLE]
 refine call_with (okCloneB hne (.inr rfl) hml) ?_
 (try simp only [bK1, bK2, bK3, bK4, bK5, bK6, bK7, bK8]); simp (maxSteps := 10000000) (disch := omega) only [go_sem, ↓reduceIte, Nat.reduceEqDiff, Nat.reduceSub, Nat.reduceLeDiff, Nat.reduceAdd, Int.reduceEq, Int.reduceLT, Int.reduceLE]
 refine call_with (okDelB hmk hml rfl) ?_
 have em : List.take k (L.map bE) ++ List.drop (k + 1) (L.map bE) = (L.take k ++ L.drop (k + 1)).map bE := by simp
 (try simp only [bK1, bK2, bK3, bK4, bK5, bK6, bK7, bK8]); simp (maxSteps := 10000000) (disch := omega) only [em, segM_cells, mkOr_sgM, go_sem, ↓reduceIte, Nat.reduceEqDiff, Nat.reduceSub, Nat.reduceLeDiff, Nat.reduceAdd, Int.reduceEq, Int.reduceLT, Int.reduceLE]
 refine ⟨_, wk_frz 25 rfl (.same _), ?_⟩
 (try simp only [bK1, bK2, bK3, bK4, bK5, bK6, bK7, bK8]); simp (maxSteps := 10000000) (disch := omega) only [segM_cells, mkOr_sgM, go_sem, ↓reduceIte, Nat.reduceEqDiff, Nat.reduceSub, Nat.reduceLeDiff, Nat.reduceAdd, Int.reduceEq, Int.reduceLT, Int.reduceLE]
 exact ⟨900, rfl, rfl⟩
theorem okPutA {f : Bool} {z : Nat} {L : List (List UInt8)} {most : Int} (m : Msg) (hm : mv m) (hc : checkM m = true) (hf : ¬ most ≤ L.length) (hz : L = [] ∨ z = 1) (hn : L.length ≤ 1000) {g : Nat} {h d} (hg : h g = some (.var (bagV f z L most))) : FunOk Try.prog 12 [.p g 0, .agg (segM m)] h d (.pv (.i .i64 0)) [.upd g (.var (bagV false 1 (L ++ [writeM m]) most))] :=
 (okPutB m hm hc hf hz hn hg).imp ⟨Imp.refl _, imp_agg (segM_cells m) (msgE_len m), trivial⟩ (by simp [tops, tn])
theorem okCopyB_bad {f : Bool} {z : Nat} {L : List (List UInt8)} {most i : Int} (hi : ¬ (0 ≤ i ∧ i < L.length)) {g : Nat} {h d} (hg : h g = some (.var (bagV f z L most))) : FunOk Try.prog 18 [.p g 0, .pv (.i .i64 i)] h d (.pv (.i .i64 2)) [.upd g (.var (bagV f z L most))] := by
 refine FunOk.io (fun h d hg => ?_) rfl rfl rfl rfl hg
 refine fun_io1 (g := 900) mixed fn18 (by simp) (by simp [tops, tn]) (by simp [tops, tn]) hg rfl (by simp [Blk.ptr, SV.kill]) rfl (fun _ => rfl) fun F => ?_
 (try simp only [bK1, bK2, bK3, bK4, bK5, bK6, bK7, bK8]); simp (maxSteps := 10000000) (disch := omega) only [ir18, Blk.ptr, go_sem, ↓reduceIte, Nat.reduceEqDiff, Nat.reduceSub, Nat.reduceLeDiff, Nat.reduceAdd, Int.reduceEq, Int.reduceLT, Int.reduceLE]
 refine call_with (okAtB_bad hi (by simp [mk, lk]; rfl)) ?_
 (try simp only [bK1, bK2, bK3, bK4, bK5, bK6, bK7, bK8]); simp (maxSteps := 10000000) (disch := omega) only [go_sem, ↓reduceIte, Nat.reduceEqDiff, Nat.reduceSub, Nat.reduceLeDiff, Nat.reduceAdd, Int.reduceEq, Int.reduceLT, Int.reduceLE]
 refine ⟨_, .same _, ?_⟩
 (try simp only [bK1, bK2, bK3, bK4, bK5, bK6, bK7, bK8]); simp (maxSteps := 10000000) (disch := omega) only [go_sem, ↓reduceIte, Nat.reduceEqDiff, Nat.reduceSub, Nat.reduceLeDiff, Nat.reduceAdd, Int.reduceEq, Int.reduceLT, Int.reduceLE]
 exact ⟨900, rfl, rfl⟩
theorem okCopyB {f : Bool} {z : Nat} {L : List (List UInt8)} {most : Int} {k : Nat} {m : Msg} (hz : L = [] ∨ z = 1) (hk : L[k]? = some (writeM m)) (hm : mv m) (hc : checkM m = true) (hf : ¬ most ≤ L.length) (hn : L.length ≤ 1000) {g : Nat} {h d} (hg : h g = some (.var (bagV f z L most))) : FunOk Try.prog 18 [.p g 0, .pv (.i .i64 k)] h d (.pv (.i .i64 0)) [.upd g (.var (bagV false 1 (L ++ [writeM m]) most))] := by
 refine FunOk.io (fun h d hg => ?_) rfl rfl rfl rfl hg
 refine fun_io1 (g := 900) mixed fn18 (by simp) (by simp [tops, tn]) (by simp [tops, tn]) hg rfl (by simp [Blk.ptr, SV.kill]) rfl (fun _ => rfl) fun F => ?_
 (try simp only [bK1, bK2, bK3, bK4, bK5, bK6, bK7, bK8]); simp (maxSteps := 10000000) (disch := omega) only [ir18, Blk.ptr, go_sem, ↓reduceIte, Nat.reduceEqDiff, Nat.reduceSub, Nat.reduceLeDiff, Nat.reduceAdd, Int.reduceEq, Int.reduceLT, Int.reduceLE]
 refine call_with (okAtB hz hk hm hc (by simp [mk, lk]; rfl)) ?_
 (try simp only [bK1, bK2, bK3, bK4, bK5, bK6, bK7, bK8]); simp (maxSteps := 10000000) (disch := omega) only [segM_cells, mkOr_sgM, go_sem, ↓reduceIte, Nat.reduceEqDiff, Nat.reduceSub, Nat.reduceLeDiff, Nat.reduceAdd, Int.reduceEq, Int.reduceLT, Int.reduceLE]
 refine call_with (okPutA (canM m) (mv_can hm) ((check_can m).trans hc) hf hz hn rfl) ?_
 (try simp only [bK1, bK2, bK3, bK4, bK5, bK6, bK7, bK8]); simp (maxSteps := 10000000) (disch := omega) only [writeM_can, go_sem, ↓reduceIte, Nat.reduceEqDiff, Nat.reduceSub, Nat.reduceLeDiff, Nat.reduceAdd, Int.reduceEq, Int.reduceLT, Int.reduceLE]
 refine ⟨_, .same _, ?_⟩
 (try simp only [bK1, bK2, bK3, bK4, bK5, bK6, bK7, bK8]); simp (maxSteps := 10000000) (disch := omega) only [go_sem, ↓reduceIte, Nat.reduceEqDiff, Nat.reduceSub, Nat.reduceLeDiff, Nat.reduceAdd, Int.reduceEq, Int.reduceLT, Int.reduceLE]
 exact ⟨900, rfl, rfl⟩
end Go.Proofs.Ytfkmlmckihmihaa.Fw
namespace Go.Proofs.Ytfkmlmckihmihaa.Fw
open Go.RowKit Go.Proofs
def askM (a b : Int) : Msg := ⟨1, a, b, fun _ => 0, fun _ _ => 0, true, 0, []⟩
theorem askM_mv (a b : Int) : mv (askM a b) := ⟨.inl rfl, (by show 0 ≤ 1000; omega), fun e he => (by cases he), fun i _ => by show 0 < 4294967296; omega, fun i _ j _ => by show 0 < 4294967296; omega⟩
theorem askM_check {a b : Int} (ha : 1 ≤ a ∧ a ≤ 8) (hb : 1 ≤ b ∧ b ≤ 8) (hn : a ≠ b) : checkM (askM a b) = true := by
 rw [checkM_e ⟨.inl rfl, ha, hb, hn, by show 0 ≤ 8; omega, fun _ => rfl⟩]; rfl
theorem okAsk (a b : Int) {h d} : FunOk Try.prog 17 [.pv (.i .i64 a), .pv (.i .i64 b)] h d (.agg (segM (askM a b))) [] := by
 refine fun_pure mixed fn17 (by simp) rfl rfl fun F => ?_
 (try simp only [bK1, bK2, bK3, bK4, bK5, bK6, bK7, bK8]); simp (maxSteps := 10000000) (disch := omega) only [ir17, segM, askM, List.map_nil, go_sem, ↓reduceIte, Nat.reduceEqDiff, Nat.reduceSub, Nat.reduceLeDiff, Nat.reduceAdd, Int.reduceEq, Int.reduceLT, Int.reduceLE]
set_option maxHeartbeats 4000000 in
theorem livesBag {h d} : FunOk Try.prog 9 [] h d (.pv (.b true)) [] := by
 refine fun_pure mixed fn9 (by simp) rfl rfl fun F => ?_
 have c1 := askM_check (a := 1) (b := 2) (by omega) (by omega) (by omega)
 have c2 := askM_check (a := 2) (b := 3) (by omega) (by omega) (by omega)
 have m3 : max (0 : Int) 3 = 3 := by omega
 (try simp only [bK1, bK2, bK3, bK4, bK5, bK6, bK7, bK8]); simp (maxSteps := 10000000) (disch := omega) only [ir9, go_sem, ↓reduceIte, Nat.reduceEqDiff, Nat.reduceSub, Nat.reduceLeDiff, Nat.reduceAdd, Int.reduceEq, Int.reduceLT, Int.reduceLE]
 refine call_with (okNewB 3) ?_
 rw [m3]
 (try simp only [bK1, bK2, bK3, bK4, bK5, bK6, bK7, bK8]); simp (maxSteps := 10000000) (disch := omega) only [go_sem, ↓reduceIte, Nat.reduceEqDiff, Nat.reduceSub, Nat.reduceLeDiff, Nat.reduceAdd, Int.reduceEq, Int.reduceLT, Int.reduceLE]
 refine call_with (okAsk 1 2) ?_
 (try simp only [bK1, bK2, bK3, bK4, bK5, bK6, bK7, bK8]); simp (maxSteps := 10000000) (disch := omega) only [go_sem, ↓reduceIte, Nat.reduceEqDiff, Nat.reduceSub, Nat.reduceLeDiff, Nat.reduceAdd, Int.reduceEq, Int.reduceLT, Int.reduceLE]
 refine call_with (okPutA (L := []) (askM 1 2) (askM_mv 1 2) c1 (by simp) (.inl rfl) (by simp) rfl) ?_
 (try simp only [bK1, bK2, bK3, bK4, bK5, bK6, bK7, bK8]); simp (maxSteps := 10000000) (disch := omega) only [go_sem, ↓reduceIte, Nat.reduceEqDiff, Nat.reduceSub, Nat.reduceLeDiff, Nat.reduceAdd, Int.reduceEq, Int.reduceLT, Int.reduceLE]
 refine call_with (okAsk 2 3) ?_
 (try simp only [bK1, bK2, bK3, bK4, bK5, bK6, bK7, bK8]); simp (maxSteps := 10000000) (disch := omega) only [List.nil_append, go_sem, ↓reduceIte, Nat.reduceEqDiff, Nat.reduceSub, Nat.reduceLeDiff, Nat.reduceAdd, Int.reduceEq, Int.reduceLT, Int.reduceLE]
 refine call_with (okPutA (L := [writeM (askM 1 2)]) (askM 2 3) (askM_mv 2 3) c2 (by simp) (.inr rfl) (by simp) rfl) ?_
 (try simp only [bK1, bK2, bK3, bK4, bK5, bK6, bK7, bK8]); simp (maxSteps := 10000000) (disch := omega) only [List.cons_append, List.nil_append, go_sem, ↓reduceIte, Nat.reduceEqDiff, Nat.reduceSub, Nat.reduceLeDiff, Nat.reduceAdd, Int.reduceEq, Int.reduceLT, Int.reduceLE]
 refine call_with (okLateB (k := 0) (L := [writeM (askM 1 2), writeM (askM 2 3)]) (.inr rfl) rfl (by simp) rfl) ?_
 (try simp only [bK1, bK2, bK3, bK4, bK5, bK6, bK7, bK8]); simp (maxSteps := 10000000) (disch := omega) only [List.take_zero, List.drop_succ_cons, List.drop_zero, List.nil_append, List.cons_append, go_sem, ↓reduceIte, Nat.reduceEqDiff, Nat.reduceSub, Nat.reduceLeDiff, Nat.reduceAdd, Int.reduceEq, Int.reduceLT, Int.reduceLE]
 refine call_with (okLenB (L := [writeM (askM 2 3), writeM (askM 1 2)]) rfl) ?_
 (try simp only [bK1, bK2, bK3, bK4, bK5, bK6, bK7, bK8]); simp (maxSteps := 10000000) (disch := omega) only [List.length_cons, List.length_nil, go_sem, ↓reduceIte, Nat.reduceEqDiff, Nat.reduceSub, Nat.reduceLeDiff, Nat.reduceAdd, Int.reduceEq, Int.reduceLT, Int.reduceLE]
 refine call_with (okAtB (k := 1) (L := [writeM (askM 2 3), writeM (askM 1 2)]) (.inr rfl) rfl (askM_mv 1 2) c1 rfl) ?_
 (try simp only [bK1, bK2, bK3, bK4, bK5, bK6, bK7, bK8]); simp (maxSteps := 10000000) (disch := omega) only [segM, show (canM (askM 1 2)).fr = 1 from rfl, go_sem, ↓reduceIte, Nat.reduceEqDiff, Nat.reduceSub, Nat.reduceLeDiff, Nat.reduceAdd, Int.reduceEq, Int.reduceLT, Int.reduceLE]
end Go.Proofs.Ytfkmlmckihmihaa.Fw
namespace Go.Proofs.Ytfkmlmckihmihaa.Fw
open Go.RowKit Go.Proofs
structure Act where
 kind : Int
 m : Msg
 at_ : Int
def actE (a : Act) : List PV := .i .i64 a.kind :: (msgE a.m ++ [.i .i64 a.at_])
theorem actE_len (a : Act) : (actE a).length = 78 := by simp [actE, msgE_len]
theorem ld_ac (a : Act) (K : KK) : LoadK (some (actE a)) 0 78 true K = K (.vec 78 (actE a)) [] := load_whole (actE_len a) K
theorem ld_ac0 (a : Act) (K : KK) : LoadK (some (actE a)) 0 1 false K = K (.pv (.i .i64 a.kind)) [] := by
 simp only [LoadK, ldX, eq_iff_iff]
 exact ⟨fun h => h.2.2, fun h => ⟨by simp [actE, msgE, vE, tE, arrF], .inr trivial, h⟩⟩
theorem ld_ac76 (a : Act) (K : KK) : LoadK (some (actE a)) 76 1 false K = K (.pv (.sl a.m.f a.m.z (a.m.evs.map evE))) [] := by
 simp only [LoadK, ldX, eq_iff_iff]
 exact ⟨fun h => h.2.2, fun h => ⟨by simp [actE, msgE, vE, tE, arrF], .inr trivial, h⟩⟩
theorem ld_ac77 (a : Act) (K : KK) : LoadK (some (actE a)) 77 1 false K = K (.pv (.i .i64 a.at_)) [] := by
 simp only [LoadK, ldX, eq_iff_iff]
 exact ⟨fun h => h.2.2, fun h => ⟨by simp [actE, msgE, vE, tE, arrF], .inr trivial, h⟩⟩
theorem ld_acM (a : Act) (K : KK) : LoadK (some (actE a)) 1 76 true K = K (.vec 76 (msgE a.m)) [] := by
 have e : ((actE a).drop 1).take 76 = msgE a.m := by
  show (msgE a.m ++ [PV.i .i64 a.at_]).take 76 = _
  rw [List.take_left' (msgE_len _)]
 simp only [LoadK, ldX, eq_iff_iff, e]
 exact ⟨fun h => h.2.2, fun h => ⟨by simp [actE_len], .inl trivial, h⟩⟩
attribute [go_sem] ld_ac ld_ac0 ld_ac76 ld_ac77 ld_acM actE_len
abbrev shMsg : Sh := .st [.int .i64, .int .i64, .int .i64, .arr 8 (.int .u32), .arr 8 (.arr 8 (.int .u32)), .sl shEvt]
abbrev shAct : Sh := .st [.int .i64, shMsg, .int .i64]
def okE (e : Evt) : Prop := (∀ i, i < 8 → e.dep i < 4294967296) ∧ e.gone.ok ∧ e.base.ok
def okM (m : Msg) : Prop := (m.evs = [] ∨ m.z = 21) ∧ (∀ e ∈ m.evs, okE e) ∧ (∀ i, i < 8 → m.kn i < 4294967296) ∧ ∀ i, i < 8 → ∀ j, j < 8 → m.tb i j < 4294967296
theorem GC_msg {cs : List PV} (h : GC shMsg cs) : ∃ m : Msg, cs = msgE m ∧ okM m := by
 simp only [GC] at h
 simp only [GCL] at h
 obtain ⟨c0, r0, rfl, ⟨n0, rfl, w0⟩, c1, r1, rfl, ⟨n1, rfl, w1⟩, c2, r2, rfl, ⟨n2, rfl, w2⟩, c3, r3, rfl, g3, c4, r4, rfl, g4, c5, r5, rfl, g5, rfl⟩ := h
 obtain ⟨a, rfl, ha⟩ := GC_vE (by simp only [GC]; exact g3)
 obtain ⟨t, rfl, ht⟩ := GC_tE (by simp only [GC]; exact g4)
 obtain ⟨es, rfl, l6, g6⟩ := GC_sl (s := shEvt) (by simp only [GC]; exact g5)
 obtain ⟨m6, rfl, h6⟩ := els_of (f := evE) GC_evt g6
 exact ⟨⟨n0, n1, n2, a, t, false, 21, m6⟩, by simp [msgE]; rfl, .inr rfl, fun e he => ⟨(h6 e he).1, (h6 e he).2.1, (h6 e he).2.2.1⟩, ha, ht⟩
theorem GC_act {cs : List PV} (h : GC shAct cs) : ∃ a : Act, cs = actE a ∧ okM a.m := by
 simp only [GC] at h
 simp only [GCL] at h
 obtain ⟨c0, r0, rfl, ⟨n0, rfl, w0⟩, c1, r1, rfl, g1, c2, r2, rfl, ⟨n2, rfl, w2⟩, rfl⟩ := h
 obtain ⟨m, rfl, hm⟩ := GC_msg (by simp only [GC]; simp only [GCL]; exact g1)
 exact ⟨⟨n0, m, n2⟩, rfl, hm⟩
def fitE (e : Evt) : Prop := e.name.length ≤ 30 ∧ e.data.length ≤ 250 ∧ e.gone.l.length ≤ 10 ∧ e.base.l.length ≤ 10
def fitA (a : Act) : Prop := a.m.evs.length ≤ 10 ∧ ∀ e ∈ a.m.evs, fitE e
noncomputable def fitsB (l : List Act) : Bool := open Classical in decide (l.length ≤ 40 ∧ ∀ a ∈ l, fitA a)
theorem fits_no {l : List Act} (h : ¬ (l.length ≤ 40 ∧ ∀ a ∈ l, fitA a)) : fitsB l = false := by simp only [fitsB, h, decide_false]
theorem fits_yes {l : List Act} (h : l.length ≤ 40 ∧ ∀ a ∈ l, fitA a) : fitsB l = true := by
 unfold fitsB
 exact @decide_eq_true _ (_) h
theorem fits_of {l : List Act} (h : fitsB l = true) : l.length ≤ 40 ∧ ∀ a ∈ l, fitA a := Classical.byContradiction fun hn => by rw [fits_no hn] at h; cases h
theorem mv_of {a : Act} (h : fitA a) (hm : okM a.m) : mv a.m :=
 ⟨hm.1, by have := h.1; omega, fun e he => by
  obtain ⟨h1, h2, h3⟩ := hm.2.1 e he
  obtain ⟨f1, f2, f3, f4⟩ := h.2 e he
  exact ⟨⟨h2, h3, by omega, by omega, by omega⟩, h1⟩, hm.2.2.1, hm.2.2.2⟩
def stFit (l : List Act) (k : Nat) : FS := mk [(12, .pv (.i .i64 k)), (11, .pv (.i .i64 l.length)), (10, .pv (.sl false 78 (l.map actE)))] []
def stFitE (l : List Act) (m : Msg) (k j : Nat) : FS := mk [(25, .pv (.i .i64 j)), (24, .pv (.i .i64 m.evs.length)), (23, .pv (.sl m.f m.z (m.evs.map evE))), (12, .pv (.i .i64 k)), (11, .pv (.i .i64 l.length)), (10, .pv (.sl false 78 (l.map actE)))] []
set_option maxHeartbeats 8000000 in
theorem okFits {l : List Act} (hl : ∀ a ∈ l, a.m.evs = [] ∨ a.m.z = 21) {h d} : FunOk Try.prog 10 [.pv (.sl false 78 (l.map actE))] h d (.pv (.b (fitsB l))) [] := by
 refine fun_pure mixed fn10 (by simp) rfl rfl fun F => ?_
 by_cases hlen : (40 : Int) < (l.length : Int)
 · have e := fits_no (l := l) fun h => by omega
   (try simp only [bK1, bK2, bK3, bK4, bK5, bK6, bK7, bK8]); simp (maxSteps := 10000000) (disch := omega) only [ir10, List.length_map, hlen, e, go_sem, ↓reduceIte, Nat.reduceEqDiff, Nat.reduceSub, Nat.reduceLeDiff, Nat.reduceAdd, Int.reduceEq, Int.reduceLT, Int.reduceLE]
 (try simp only [bK1, bK2, bK3, bK4, bK5, bK6, bK7, bK8]); simp (maxSteps := 10000000) (disch := omega) only [ir10, List.length_map, hlen, go_sem, ↓reduceIte, Nat.reduceEqDiff, Nat.reduceSub, Nat.reduceLeDiff, Nat.reduceAdd, Int.reduceEq, Int.reduceLT, Int.reduceLE]
 refine loop_ok mixed (stFit l) (fun k => k ≤ l.length ∧ ∀ a ∈ l.take k, fitA a) (fun k => l.length - k) 0 (by simp) (weak_mk ?_ ?_) fun k hk => ?_
 · (try simp only [bK1, bK2, bK3, bK4, bK5, bK6, bK7, bK8]); simp (maxSteps := 10000000) (disch := omega) only [go_sem, ↓reduceIte, Nat.reduceEqDiff, Nat.reduceSub, Nat.reduceLeDiff, Nat.reduceAdd, Int.reduceEq, Int.reduceLT, Int.reduceLE]
 · (try simp only [bK1, bK2, bK3, bK4, bK5, bK6, bK7, bK8]); simp (maxSteps := 10000000) (disch := omega) only [go_sem, ↓reduceIte, Nat.reduceEqDiff, Nat.reduceSub, Nat.reduceLeDiff, Nat.reduceAdd, Int.reduceEq, Int.reduceLT, Int.reduceLE]
 obtain ⟨hk1, hk2⟩ := hk
 by_cases hlt : k < l.length
 · have he : (l.map actE)[k]? = some (actE l[k]) := by simp [hlt]
   have hmem := List.getElem_mem hlt
   have hz := hl _ hmem
   have ht : l.take (k + 1) = l.take k ++ [l[k]] := by rw [List.take_add_one, List.getElem?_eq_getElem hlt]; rfl
   generalize l[k] = a at *
   by_cases h10 : (10 : Int) < (a.m.evs.length : Int)
   · have e := fits_no (l := l) fun h => by have := (h.2 a hmem).1; omega
     (try simp only [bK1, bK2, bK3, bK4, bK5, bK6, bK7, bK8]); simp (maxSteps := 10000000) (disch := omega) only [stFit, List.length_map, he, h10, e, go_sem, ↓reduceIte, Nat.reduceEqDiff, Nat.reduceSub, Nat.reduceLeDiff, Nat.reduceAdd, Int.reduceEq, Int.reduceLT, Int.reduceLE]
   (try simp only [bK1, bK2, bK3, bK4, bK5, bK6, bK7, bK8]); simp (maxSteps := 10000000) (disch := omega) only [stFit, List.length_map, he, h10, go_sem, ↓reduceIte, Nat.reduceEqDiff, Nat.reduceSub, Nat.reduceLeDiff, Nat.reduceAdd, Int.reduceEq, Int.reduceLT, Int.reduceLE]
   refine loop_ok mixed (stFitE l a.m k) (fun j => j ≤ a.m.evs.length ∧ ∀ e ∈ a.m.evs.take j, fitE e) (fun j => a.m.evs.length - j) 0 (by simp) (weak_mk ?_ ?_) fun j hj => ?_
   · (try simp only [bK1, bK2, bK3, bK4, bK5, bK6, bK7, bK8]); simp (maxSteps := 10000000) (disch := omega) only [go_sem, ↓reduceIte, Nat.reduceEqDiff, Nat.reduceSub, Nat.reduceLeDiff, Nat.reduceAdd, Int.reduceEq, Int.reduceLT, Int.reduceLE]
   · (try simp only [bK1, bK2, bK3, bK4, bK5, bK6, bK7, bK8]); simp (maxSteps := 10000000) (disch := omega) only [go_sem, ↓reduceIte, Nat.reduceEqDiff, Nat.reduceSub, Nat.reduceLeDiff, Nat.reduceAdd, Int.reduceEq, Int.reduceLT, Int.reduceLE]
   obtain ⟨hj1, hj2⟩ := hj
   by_cases hltj : j < a.m.evs.length
   · have hz2 : a.m.z = 21 := hz.resolve_left fun e => by rw [e] at hltj; simp at hltj
     have hej : (a.m.evs.map evE)[j]? = some (evE a.m.evs[j]) := by simp [hltj]
     have hmj := List.getElem_mem hltj
     have htj : a.m.evs.take (j + 1) = a.m.evs.take j ++ [a.m.evs[j]] := by rw [List.take_add_one, List.getElem?_eq_getElem hltj]; rfl
     generalize a.m.evs[j] = x at *
     by_cases n1 : (30 : Int) < (x.name.length : Int)
     · have e := fits_no (l := l) fun h => by have := ((h.2 a hmem).2 x hmj).1; omega
       (try simp only [bK1, bK2, bK3, bK4, bK5, bK6, bK7, bK8]); simp (maxSteps := 10000000) (disch := omega) only [stFitE, List.length_map, hz2, hej, ld_ev, n1, e, go_sem, ↓reduceIte, Nat.reduceEqDiff, Nat.reduceSub, Nat.reduceLeDiff, Nat.reduceAdd, Int.reduceEq, Int.reduceLT, Int.reduceLE]
     by_cases n2 : (250 : Int) < (x.data.length : Int)
     · have e := fits_no (l := l) fun h => by have := ((h.2 a hmem).2 x hmj).2.1; omega
       (try simp only [bK1, bK2, bK3, bK4, bK5, bK6, bK7, bK8]); simp (maxSteps := 10000000) (disch := omega) only [stFitE, List.length_map, hz2, hej, ld_ev, n1, n2, e, go_sem, ↓reduceIte, Nat.reduceEqDiff, Nat.reduceSub, Nat.reduceLeDiff, Nat.reduceAdd, Int.reduceEq, Int.reduceLT, Int.reduceLE]
     by_cases n3 : (10 : Int) < (x.gone.l.length : Int)
     · have e := fits_no (l := l) fun h => by have := ((h.2 a hmem).2 x hmj).2.2.1; omega
       (try simp only [bK1, bK2, bK3, bK4, bK5, bK6, bK7, bK8]); simp (maxSteps := 10000000) (disch := omega) only [stFitE, List.length_map, hz2, hej, ld_ev, n1, n2, n3, e, go_sem, ↓reduceIte, Nat.reduceEqDiff, Nat.reduceSub, Nat.reduceLeDiff, Nat.reduceAdd, Int.reduceEq, Int.reduceLT, Int.reduceLE]
     by_cases n4 : (10 : Int) < (x.base.l.length : Int)
     · have e := fits_no (l := l) fun h => by have := ((h.2 a hmem).2 x hmj).2.2.2; omega
       (try simp only [bK1, bK2, bK3, bK4, bK5, bK6, bK7, bK8]); simp (maxSteps := 10000000) (disch := omega) only [stFitE, List.length_map, hz2, hej, ld_ev, n1, n2, n3, n4, e, go_sem, ↓reduceIte, Nat.reduceEqDiff, Nat.reduceSub, Nat.reduceLeDiff, Nat.reduceAdd, Int.reduceEq, Int.reduceLT, Int.reduceLE]
     (try simp only [bK1, bK2, bK3, bK4, bK5, bK6, bK7, bK8]); simp (maxSteps := 10000000) (disch := omega) only [stFitE, List.length_map, hz2, hej, ld_ev, n1, n2, n3, n4, go_sem, ↓reduceIte, Nat.reduceEqDiff, Nat.reduceSub, Nat.reduceLeDiff, Nat.reduceAdd, Int.reduceEq, Int.reduceLT, Int.reduceLE]
     refine loop_next (j + 1) _ _ rfl ⟨by omega, fun e he => ?_⟩ (by omega) ?_ ?_
     · rw [htj] at he
       rcases List.mem_append.1 he with he | he
       · exact hj2 e he
       · rw [List.mem_singleton.1 he]; exact ⟨by omega, by omega, by omega, by omega⟩
     · (try simp only [bK1, bK2, bK3, bK4, bK5, bK6, bK7, bK8]); simp (maxSteps := 10000000) (disch := omega) only [hz2, go_sem, ↓reduceIte, Nat.reduceEqDiff, Nat.reduceSub, Nat.reduceLeDiff, Nat.reduceAdd, Int.reduceEq, Int.reduceLT, Int.reduceLE]
     · (try simp only [bK1, bK2, bK3, bK4, bK5, bK6, bK7, bK8]); simp (maxSteps := 10000000) (disch := omega) only [go_sem, ↓reduceIte, Nat.reduceEqDiff, Nat.reduceSub, Nat.reduceLeDiff, Nat.reduceAdd, Int.reduceEq, Int.reduceLT, Int.reduceLE]
   obtain rfl : j = a.m.evs.length := by omega
   rw [List.take_length] at hj2
   (try simp only [bK1, bK2, bK3, bK4, bK5, bK6, bK7, bK8]); simp (maxSteps := 10000000) (disch := omega) only [stFitE, go_sem, ↓reduceIte, Nat.reduceEqDiff, Nat.reduceSub, Nat.reduceLeDiff, Nat.reduceAdd, Int.reduceEq, Int.reduceLT, Int.reduceLE]
   refine loop_next (k + 1) _ _ rfl ⟨by omega, fun b hb => ?_⟩ (by omega) ?_ ?_
   · rw [ht] at hb
     rcases List.mem_append.1 hb with hb | hb
     · exact hk2 b hb
     · rw [List.mem_singleton.1 hb]; exact ⟨by omega, hj2⟩
   · (try simp only [bK1, bK2, bK3, bK4, bK5, bK6, bK7, bK8]); simp (maxSteps := 10000000) (disch := omega) only [go_sem, ↓reduceIte, Nat.reduceEqDiff, Nat.reduceSub, Nat.reduceLeDiff, Nat.reduceAdd, Int.reduceEq, Int.reduceLT, Int.reduceLE]
   · (try simp only [bK1, bK2, bK3, bK4, bK5, bK6, bK7, bK8]); simp (maxSteps := 10000000) (disch := omega) only [go_sem, ↓reduceIte, Nat.reduceEqDiff, Nat.reduceSub, Nat.reduceLeDiff, Nat.reduceAdd, Int.reduceEq, Int.reduceLT, Int.reduceLE]
 obtain rfl : k = l.length := by omega
 rw [List.take_length] at hk2
 have e := fits_yes (l := l) ⟨by omega, hk2⟩
 (try simp only [bK1, bK2, bK3, bK4, bK5, bK6, bK7, bK8]); simp (maxSteps := 10000000) (disch := omega) only [stFit, e, go_sem, ↓reduceIte, Nat.reduceEqDiff, Nat.reduceSub, Nat.reduceLeDiff, Nat.reduceAdd, Int.reduceEq, Int.reduceLT, Int.reduceLE]
end Go.Proofs.Ytfkmlmckihmihaa.Fw
namespace Go.Proofs.Ytfkmlmckihmihaa.Fw
open Go.RowKit Go.Proofs
theorem imp_bag0 (n : Int) : Imp (.agg [.pv (.sl true 0 []), .pv (.i .i64 n)]) (.agg [.pv (.sl false 1 []), .pv (.i .i64 n)]) = True := by
 refine eq_true fun V ρ v h => ?_
 simp only [Conc, Cells] at h ⊢
 obtain ⟨vs, rfl, u, us, e1, h1, h2, h3, h4⟩ := h
 refine ⟨vs, rfl, u, us, e1, ?_, h2, h3, h4⟩
 cases h1 with
 | sl _ _ _ a cap cs bl off arr hcap hfull hsz ha hcs hel =>
  exact .sl false 1 [] a cap cs bl off arr hcap (by simp) (by simp) (by simp) (by simp) (by simp)
theorem k_bag (n f z L m) : SV.kill n (bagV f z L m) = bagV f z L m := (rfl)
theorem w_bag (f z L m) : (bagV f z L m).width = 2 := (rfl)
attribute [go_sem] k_bag w_bag
end Go.Proofs.Ytfkmlmckihmihaa.Fw
namespace Go.Proofs.Ytfkmlmckihmihaa.Fw
open Go.RowKit Go.Proofs
section iov
variable {P : Program}
theorem RelR.swaping {F : Fr} {N : Nat} {ρ : Nat → Value} {s : FS} {a : Go.Act} {w w' : World} (hR : RelR F N ρ s a w) (g d : Nat) (blk bd : Blk) (p : Value) (hgd : g ≠ d) (hsg : s.h g = some blk)
 (hos : w'.os = w.os) (htape : w'.tape = w.tape) (hout : w'.output = w.output) (hsize : w.heap.size ≤ w'.heap.size) (hblock : ∀ b, b < w.heap.size → idOf (ρ g) ≠ some b → w'.heap[b]? = w.heap[b]?)
 (hid : ∀ b, idOf p = some b → w.heap.size ≤ b ∧ b < w'.heap.size)
 (hown : Own w' (vw F w' (Fw.upd ρ d p) ((s.kill d).seth d (some bd))) (Fw.upd ρ d p) d bd)
 (howng : Own w' (vw F w' (Fw.upd ρ d p) ((s.kill d).seth d (some bd))) (Fw.upd ρ d p) g (blk.kill d)) :
 RelR F N (Fw.upd ρ d p) ((s.kill d).seth d (some bd)) a w' ∧ (vw F w ρ s).le (vw F w' (Fw.upd ρ d p) ((s.kill d).seth d (some bd))) := by
 have hs : ∀ m x, ((s.kill d).seth d (some bd)).h m = some x → (m = d ∧ x = bd) ∨ (m ≠ d ∧ ∃ y, s.h m = some y ∧ x = y.kill d) := by
  intro m x hm
  simp only [FS.seth, FS.kill] at hm
  by_cases e : m = d
  · simp only [e, if_true] at hm; cases hm; exact .inl ⟨e, rfl⟩
  · simp only [e, if_false] at hm
    cases hy : s.h m with
    | none => rw [hy] at hm; cases hm
    | some y => rw [hy] at hm; cases hm; exact .inr ⟨e, y, rfl, rfl⟩
 have key : ∀ b, owned (Fw.upd ρ d p) ((s.kill d).seth d (some bd)).h b → owned ρ s.h b ∨ (w.heap.size ≤ b ∧ b < w'.heap.size) := by
  rintro b ⟨m, x, hm, hb⟩
  rcases hs m x hm with ⟨rfl, rfl⟩ | ⟨e1, y, hy, rfl⟩
  · rw [upd_self] at hb; exact .inr (hid b hb)
  · rw [upd_ne e1] at hb; exact .inl ⟨m, y, hy, hb⟩
 have hV : (vw F w ρ s).le (vw F w' (Fw.upd ρ d p) ((s.kill d).seth d (some bd))) := viewOf_le fun b c ho hc => by
  have hlt := cellsAt_of hc
  refine ⟨fun hb => ?_, ?_⟩
  · rcases hb with hb | hb
    · rcases key b hb with h | h
      · exact ho (.inl h)
      · omega
    · exact ho (.inr hb)
  · rw [cellsAt_congr (hblock b hlt fun h => ho (.inl ⟨g, blk, hsg, h⟩))]; exact hc
 refine ⟨⟨⟨hos.trans hR.fr.os, htape.trans hR.fr.tape, hout.trans hR.fr.output, Nat.le_trans hR.fr.size hsize, fun b hb hm => ?_, hR.fr.hid⟩, fun b hb => ?_, fun m x hm => ?_, fun m k x y b hm hk hbm hbk => ?_, fun m => ?_, hR.size, hR.defers⟩, hV⟩
 · rw [hblock b (Nat.lt_of_lt_of_le hb hR.fr.size) fun h => by
    rcases hR.may b ⟨g, blk, hsg, h⟩ with h1 | h1
    · omega
    · exact hm h1]
   exact hR.fr.block b hb hm
 · rcases key b hb with h | h
   · exact hR.may b h
   · exact .inl (Nat.le_trans hR.fr.size h.1)
 · rcases hs m x hm with ⟨rfl, rfl⟩ | ⟨e1, y, hy, rfl⟩
   · exact hown
   · by_cases e2 : m = g
     · subst e2; rw [hsg] at hy; cases hy; exact howng
     · have ho := hR.own m y hy
       exact (ho.congr (V' := vw F w ρ s) (w' := w') (fun _ _ x => x) (fun b hb => hblock b (ho.lt hb) fun hb' => e2 (hR.inj m g y blk b hy hsg hb hb'))).kill hV e1
 · rcases hs m x hm with ⟨rfl, rfl⟩ | ⟨e1, z, hz, rfl⟩
   · rcases hs k y hk with ⟨rfl, rfl⟩ | ⟨f1, u, hu, rfl⟩
     · rfl
     · exfalso; rw [upd_self] at hbm; rw [upd_ne f1] at hbk
       have h := hid b hbm
       have := (hR.own k u hu).lt hbk; omega
   · rcases hs k y hk with ⟨rfl, rfl⟩ | ⟨f1, u, hu, rfl⟩
     · exfalso; rw [upd_self] at hbk; rw [upd_ne e1] at hbm
       have h := hid b hbk
       have := (hR.own m z hz).lt hbm; omega
     · rw [upd_ne e1] at hbm; rw [upd_ne f1] at hbk
       exact hR.inj m k z u b hz hu hbm hbk
 · show Conc _ _ ((s.t m).kill d) _
   exact (hR.tmps m).kill hV
theorem fun_iov (hm : P.follows .mixedOrders = true) {f N' : Nat} {rs : List Rv} {c : C} (hf : fnOf P f = some (N', rs, c)) {args : List SV} {h : Nat → Option Blk} {d g : Nat} {blk : Blk} {fn : Fn} (hgd : g ≠ d) (hlen : args.length ≤ N')
 (hts : ∀ n ∈ tops args, n = g) (hgt : g ∈ tops args) (hg : h g = some blk) (hp : (blk.ptr g).kill g ≠ blk.ptr g) (hb' : blk.plain = true) (hkb : blk.kill d = blk) (hpp : ∀ m, blk.ptr m = blk.ptr m)
 (hrun : ∀ F, sx (env P F N') c (RetW rs fun y s => ∃ n m, y = .fn fn [.p n 0] ∧ s.h n = some (.var (.p m 0)) ∧ n ≠ m ∧ s.t 1000000 = blk.ptr m ∧ s.h m = some blk) (mk (argT 0 args ++ [(1000000, blk.ptr g)]) [(g, some blk)])) :
 FunOk P f args h d (.fn fn [.p d 0]) [.new d (.var (.p g 0))] := by
 refine ⟨entered_of hf, fun F N ρ s a w hR hh vs hc => ?_⟩
 have hsg : s.h g = some blk := (hh g hgt).trans hg
 have hvl : vs.length = args.length := by
  clear hrun hlen hts hh hgt
  induction args generalizing vs with
  | nil => simp only [ConcL] at hc; subst hc; rfl
  | cons x l ih =>
   simp only [ConcL] at hc
   obtain ⟨v, us, rfl, _, h⟩ := hc
   simp [ih _ h]
 let F' : Fr := ⟨w, mine ρ s.h [g], F.out ρ (without s [g]).h, fun _ => ρ g, []⟩
 have hmine : ∀ b, mine ρ s.h [g] b ↔ idOf (ρ g) = some b := fun b => by
  constructor
  · rintro ⟨n, hn, x, h1, h2⟩
    simp only [List.mem_singleton] at hn; subst hn; exact h2
  · intro hb; exact ⟨g, List.mem_singleton.2 rfl, blk, hsg, hb⟩
 have hlk : ∀ n, lk none n [(g, some blk)] = if n = g then some blk else none := fun n => by simp only [lk]
 have how : ∀ b, owned ρ (mk (argT 0 args ++ [(1000000, blk.ptr g)]) [(g, some blk)]).h b ↔ mine ρ s.h [g] b := fun b => by
  rw [hmine]
  constructor
  · rintro ⟨n, x, h1, h2⟩
    simp only [mk, hlk] at h1
    split at h1
    · rename_i e; subst e; exact h2
    · cases h1
  · intro hb; exact ⟨g, blk, by simp [mk, lk], hb⟩
 have hoth : ∀ b, owned ρ (without s [g]).h b ↔ ∃ n, n ≠ g ∧ ∃ x, s.h n = some x ∧ idOf (ρ n) = some b := fun b => by
  constructor
  · rintro ⟨n, x, h1, h2⟩
    simp only [without, List.mem_singleton] at h1; split at h1
    · cases h1
    · rename_i hn; exact ⟨n, hn, x, h1, h2⟩
  · rintro ⟨n, hn, x, h1, h2⟩
    exact ⟨n, x, by simp only [without, List.mem_singleton, if_neg hn]; exact h1, h2⟩
 have hview : viewOf w (F'.out ρ (mk (argT 0 args ++ [(1000000, blk.ptr g)]) [(g, some blk)]).h) = vw F w ρ s := by
  show viewOf w _ = viewOf w _
  congr 1
  funext b
  refine propext ⟨fun hb => ?_, fun hb => ?_⟩
  · rcases hb with hb | hb
    · obtain ⟨n, _, x, h1, h2⟩ := (how b).1 hb; exact .inl ⟨n, x, h1, h2⟩
    · rcases hb with hb | hb
      · obtain ⟨n, _, x, h1, h2⟩ := (hoth b).1 hb; exact .inl ⟨n, x, h1, h2⟩
      · exact .inr hb
  · rcases hb with ⟨n, x, h1, h2⟩ | hb
    · by_cases hn : n = g
      · subst hn; exact .inl ((how b).2 ((hmine b).2 h2))
      · exact .inr (.inl ((hoth b).2 ⟨n, hn, x, h1, h2⟩))
    · exact .inr (.inr hb)
 have hgl : ∀ (k : Nat) (l : List SV) (n : Nat) (t : List (Nat × SV)), (∀ i, k ≤ i → i < k + l.length → i ≠ n) → lk .dead n (argT k l ++ t) = lk .dead n t := by
  intro k l
  induction l generalizing k with
  | nil => intro n t _; rfl
  | cons y l ih =>
   intro n t hn
   simp only [argT, List.cons_append, lk]
   rw [if_neg fun e => hn k (Nat.le_refl k) (by simp) e.symm]
   exact ih (k + 1) n t fun i h1 h2 => hn i (by omega) (by simp only [List.length_cons]; omega)
 have hap : ∀ (k : Nat) (l : List SV) (n : Nat) (t : List (Nat × SV)), k ≤ n → n < k + l.length → lk .dead n (argT k l ++ t) = lk .dead n (argT k l) := by
  intro k l
  induction l generalizing k with
  | nil => intro n t h1 h2; simp at h2; omega
  | cons y l ih =>
   intro n t h1 h2
   simp only [argT, List.cons_append, lk]
   split
   · rfl
   · exact ih (k + 1) n t (by omega) (by simp only [List.length_cons] at h2; omega)
 have hN := fnOf_le hf
 have hR0 : RelR F' N' ρ (mk (argT 0 args ++ [(1000000, blk.ptr g)]) [(g, some blk)]) { tmps := (⟨vs⟩ : Array Value) ++ Array.replicate (N' - (⟨vs⟩ : Array Value).size) undef, defers := [] } w := by
  refine ⟨⟨rfl, rfl, rfl, Nat.le_refl _, fun _ _ _ => rfl, fun b hb => ⟨?_, fun hmi => ?_⟩⟩, fun b hb => .inr ((how b).1 hb), fun n x hx => ?_, fun n m x y b hx hy hbx hby => ?_, fun n => ?_, by simp; omega, rfl⟩
  · rcases hb with hb | hb
    · obtain ⟨n, _, x, h1, h2⟩ := (hoth b).1 hb; exact (hR.own n x h1).lt h2
    · exact Nat.lt_of_lt_of_le (hR.fr.hid b hb).1 hR.fr.size
  · have hmb := (hmine b).1 hmi
    rcases hb with hb | hb
    · obtain ⟨m, hm, y, g1, g2⟩ := (hoth b).1 hb
      exact hm (hR.inj m g y blk b g1 hsg g2 hmb)
    · exact hR.shown ⟨g, blk, hsg, hmb⟩ hb
  · rw [hview]
    simp only [mk, hlk] at hx; split at hx
    · rename_i e; subst e; cases hx; exact hR.own _ _ hsg
    · cases hx
  · simp only [mk, hlk] at hx hy
    split at hx
    · split at hy
      · rename_i e1 e2; rw [e1, e2]
      · cases hy
    · cases hx
  · rw [hview]
    simp only [mk]
    unfold Fr.val
    by_cases hb : n < big
    · rw [if_pos hb]
      have he : ((⟨vs⟩ : Array Value) ++ Array.replicate (N' - (⟨vs⟩ : Array Value).size) undef).getD n undef = (vs[n]?).getD undef := by
       rw [Array.getD_eq_getD_getElem?]
       by_cases hn : n < vs.length
       · rw [Array.getElem?_append_left (by simpa using hn)]; simp
       · rw [Array.getElem?_append_right (by simpa using hn)]
         rw [List.getElem?_eq_none (by omega)]
         simp only [Array.getElem?_replicate, Option.getD_none]
         split <;> rfl
      rw [he]
      have := argT_conc 0 n hc
      simp only [Nat.zero_le, if_true, Nat.sub_zero] at this
      by_cases hn : n < args.length
      · rw [hap 0 args n _ (Nat.zero_le n) (by omega)]; exact this
      · rw [hgl 0 args n _ fun i h1 h2 => by omega]
        have : n ≠ 1000000 := fun e => by rw [e] at hb; exact Nat.lt_irrefl _ hb
        simp only [lk, if_neg this, Conc]
    · rw [if_neg hb, hgl 0 args n _ fun i h1 h2 => by omega]
      simp only [lk]
      split
      · exact own_ptr hp (hR.own g blk hsg)
      · simp only [Conc]
 refine Calls.mono (call_fromG hm hf rfl hR0.fr (fun b hb => by
  obtain ⟨n, hn, x, h1, h2⟩ := hb
  exact (hR.own n x h1).lt h2) hR0 retW_w (hrun F')) fun e w' he => ?_
 obtain ⟨v, ρ', s', a', y, rfl, hR', hy, n0, m, rfl, hn0, hnm, ht, hm'⟩ := he
 have hadr : ρ g = ρ' m := by
  have h1 := hR'.tmps 1000000
  rw [ht] at h1
  have e : F'.val a' 1000000 = ρ g := by
   unfold Fr.val
   rw [if_neg (show ¬ (1000000 : Nat) < big from Nat.lt_irrefl _)]
  rw [e] at h1
  exact ptr_addr (hpp m) hp (own_ptr hp (hR.own g blk hsg)) h1
 have hkeep : ∀ b, b < w.heap.size → idOf (ρ g) ≠ some b → w'.heap[b]? = w.heap[b]? := fun b hb hn => hR'.fr.block b hb fun hmi => hn ((hmine b).1 hmi)
 have hidp : ∀ b, idOf (ρ' n0) = some b → w.heap.size ≤ b ∧ b < w'.heap.size := fun b hb => by
  have ho : owned ρ' s'.h b := ⟨n0, _, hn0, hb⟩
  refine ⟨?_, hR'.lt ho⟩
  rcases hR'.may b ho with h1 | h1
  · exact h1
  · have h2 := (hmine b).1 h1
    rw [hadr] at h2
    exact absurd (hR'.inj n0 m _ _ b hn0 hm' hb h2) hnm
 have hV2 : (viewOf w' (F'.out ρ' s'.h)).le (vw F w' (Fw.upd ρ d (ρ' n0)) ((s.kill d).seth d (some (.var (.p g 0))))) := viewOf_le fun b c ho hc => ⟨fun hb => ho ?_, hc⟩
 · have hres := hR.swaping g d blk (.var (.p g 0)) (ρ' n0) hgd hsg hR'.fr.os hR'.fr.tape hR'.fr.output hR'.fr.size hkeep hidp (by
    obtain ⟨b, vs', ty, fr, u, g1, g2, g3, g4, g5, g6, g7⟩ := hR'.own n0 _ hn0
    refine ⟨b, vs', ty, fr, u, by rw [upd_self]; exact g1, g2, g3, ?_, g5, g6, g7⟩
    simp only [Conc] at g4 ⊢
    rw [upd_ne hgd, hadr]; exact g4) (by
    rw [hkb]
    exact Own.closed hb' hV2 (by rw [upd_ne hgd]; exact hadr) (hR'.own m _ hm'))
   refine ⟨v, _, rfl, hres.1, ?_⟩
   simp only [Conc, ConcL] at hy ⊢
   obtain ⟨vs', h1, u, us, h2, ⟨b, h3, h4⟩, h5⟩ := hy
   exact ⟨vs', h1, u, us, h2, ⟨b, by rw [upd_self]; exact h3, h4⟩, h5⟩
 · rcases hb with ⟨q, z, h1, h2⟩ | hb
   · simp only [FS.seth, FS.kill] at h1
     by_cases hq : q = d
     · subst hq
       rw [upd_self] at h2
       exact .inl ⟨n0, _, hn0, h2⟩
     · rw [upd_ne hq] at h2
       simp only [hq, if_false] at h1
       obtain ⟨z', hz', _⟩ := Option.map_eq_some_iff.1 h1
       by_cases hqg : q = g
       · subst hqg; exact .inl ⟨m, _, hm', by rw [← hadr]; exact h2⟩
       · exact .inr (.inl ((hoth b).2 ⟨q, hqg, z', hz', h2⟩))
   · exact .inr (.inr hb)
end iov
theorem FunOk.iov {P : Program} {f : Nat} {c : SV} {fn : Fn} (hf : ∀ h d, d ≠ 900 → h 900 = some (.var c) → FunOk P f [.p 900 0] h d (.fn fn [.p d 0]) [.new d (.var (.p 900 0))]) (hc : c.closed = true) {g : Nat} {h : Nat → Option Blk} {d : Nat} (hgd : g ≠ d) (hg : h g = some (.var c)) :
 FunOk P f [.p g 0] h d (.fn fn [.p d 0]) [.new d (.var (.p g 0))] := by
 have hne : sw1 900 g d ≠ 900 := fun e => by
  have := congrArg (sw1 900 g) e
  rw [sw1_inv, sw1_a] at this
  exact hgd this.symm
 have h1 := (hf (fun k => h (sw1 900 g k)) (sw1 900 g d) hne (by show h (sw1 900 g 900) = _; rw [sw1_a]; exact hg)).rn (π := sw1 900 g) (sw1_inv 900 g) (d' := d)
 simp only [SV.rnL, SV.rn, HU.rn, Blk.rn, List.map_cons, List.map_nil, sw1_a, sw1_inv] at h1
 refine h1.at fun n hn => ?_
 simp only [tops, tn, List.append_nil, List.mem_singleton] at hn
 subst hn
 simp only [sw1_inv, hg, Option.map_some, Blk.rn, rn_cl hc]
end Go.Proofs.Ytfkmlmckihmihaa.Fw
namespace Go.Proofs.Ytfkmlmckihmihaa.Fw
open Go.RowKit Go.Proofs
theorem okAllB {f : Bool} {z : Nat} {L : List (List UInt8)} {most : Int} {g : Nat} {h d} (hgd : g ≠ d) (hg : h g = some (.var (bagV f z L most))) : FunOk Try.prog 20 [.p g 0] h d (.fn (.func 40) [.p d 0]) [.new d (.var (.p g 0))] := by
 refine FunOk.iov (fun h d hd hg => ?_) rfl hgd hg
 refine fun_iov (g := 900) mixed fn20 (Ne.symm hd) (by simp) (by simp [tops, tn]) (by simp [tops, tn]) hg (by simp [Blk.ptr, SV.kill]) rfl rfl (fun _ => rfl) fun F => ?_
 (try simp only [bK1, bK2, bK3, bK4, bK5, bK6, bK7, bK8]); simp (maxSteps := 10000000) (disch := omega) only [ir20, Blk.ptr, go_sem, ↓reduceIte, Nat.reduceEqDiff, Nat.reduceSub, Nat.reduceLeDiff, Nat.reduceAdd, Int.reduceEq, Int.reduceLT, Int.reduceLE]
 refine ⟨_, .same _, ?_⟩
 (try simp only [bK1, bK2, bK3, bK4, bK5, bK6, bK7, bK8]); simp (maxSteps := 10000000) (disch := omega) only [go_sem, ↓reduceIte, Nat.reduceEqDiff, Nat.reduceSub, Nat.reduceLeDiff, Nat.reduceAdd, Int.reduceEq, Int.reduceLT, Int.reduceLE]
 exact ⟨1, 900, rfl, rfl, by decide, rfl, rfl⟩
end Go.Proofs.Ytfkmlmckihmihaa.Fw
namespace Go.Proofs.Ytfkmlmckihmihaa.Fw
open Go.RowKit Go.Proofs
theorem okCloneN {f : Bool} {z : Nat} {es : List (List PV)} (hz : es = [] ∨ z = 1) (hn : es.length ≤ 100000) {h d} : FunOk Try.prog 33 [.pv (.sl f z es)] h d (.os d) [.new d (.row 1 es)] := by
 refine fun_rowN mixed fn33 (by simp) rfl (.inl rfl) fun F => ?_
 (try simp only [bK1, bK2, bK3, bK4, bK5, bK6, bK7, bK8]); simp (maxSteps := 10000000) (disch := omega) only [ir33, hz, go_sem, ↓reduceIte, Nat.reduceEqDiff, Nat.reduceSub, Nat.reduceLeDiff, Nat.reduceAdd, Int.reduceEq, Int.reduceLT, Int.reduceLE]
 intro b hb
 cases b
 · (try simp only [bK1, bK2, bK3, bK4, bK5, bK6, bK7, bK8]); simp (maxSteps := 10000000) (disch := omega) only [hz, go_sem, ↓reduceIte, Nat.reduceEqDiff, Nat.reduceSub, Nat.reduceLeDiff, Nat.reduceAdd, Int.reduceEq, Int.reduceLT, Int.reduceLE]
 · have he : es = [] := Classical.byContradiction fun h => by cases hb h
   subst he
   (try simp only [bK1, bK2, bK3, bK4, bK5, bK6, bK7, bK8]); simp (maxSteps := 10000000) (disch := omega) only [go_sem, ↓reduceIte, Nat.reduceEqDiff, Nat.reduceSub, Nat.reduceLeDiff, Nat.reduceAdd, Int.reduceEq, Int.reduceLT, Int.reduceLE]
   exact Nat.one_pos
theorem sameB_can (e x : Evt) : sameB (canon e) x = sameB e x := rfl
theorem sameL_can (l m : List Evt) : sameL (l.map canon) m = sameL l m := by
 unfold sameL
 rw [List.length_map]
 congr 1
 induction l generalizing m with
 | nil => rfl
 | cons e l ih =>
  cases m with
  | nil => rfl
  | cons x m => simp only [List.map_cons, List.zip_cons_cons, List.all_cons, sameB_can, ih]
theorem sameM_can (m w : Msg) : sameM (canM m) w = sameM m w := by
 show (decide (m.k = w.k) && (decide (m.fr = w.fr) && (decide (m.to = w.to) && (decide (vEq m.kn w.kn) && (decide (tEq m.tb w.tb) && sameL (m.evs.map canon) w.evs))))) = _
 rw [sameL_can]; rfl
noncomputable def cnt (w : Msg) (l : List Msg) : Nat := (l.filter fun m => sameM m w).length
theorem cnt_app (w : Msg) (a b : List Msg) : cnt w (a ++ b) = cnt w a + cnt w b := by simp [cnt]
theorem cnt_one (w m : Msg) : cnt w [m] = if sameM m w = true then 1 else 0 := by
 unfold cnt
 cases h : sameM m w <;> simp [h]
theorem cnt_cut (w : Msg) {l : List Msg} {k : Nat} {m : Msg} (h : l[k]? = some m) : cnt w l = cnt w (l.take k ++ l.drop (k + 1)) + cnt w [m] := by
 have hk := (List.getElem?_eq_some_iff.1 h).1
 have e : l = l.take k ++ (m :: l.drop (k + 1)) := by
  have hm : l[k] = m := (List.getElem?_eq_some_iff.1 h).2
  rw [← hm, ← List.drop_eq_getElem_cons hk, List.take_append_drop]
 have e2 : cnt w l = cnt w (l.take k) + (cnt w [m] + cnt w (l.drop (k + 1))) := by
  conv => lhs; rw [e]
  rw [cnt_app, show m :: l.drop (k + 1) = [m] ++ l.drop (k + 1) from rfl, cnt_app]
 rw [e2, cnt_app]; omega
theorem cnt_le (w : Msg) (l : List Msg) : cnt w l ≤ l.length := List.length_filter_le _ _
end Go.Proofs.Ytfkmlmckihmihaa.Fw
namespace Go.Proofs.Ytfkmlmckihmihaa.Fw
open Go.RowKit Go.Proofs
noncomputable def stCn (l : List Act) (w : Msg) (x : Nat × List Msg) : FS := mk [(34, .pv (.i .i64 x.1)), (33, .pv (.i .i64 l.length)), (32, .pv (.sl false 78 (l.map actE))), (6, .p 6 0), (5, .p 31 0), (3, .p 3 0)] [(31, some (.var (bagV false 1 (x.2.map writeM) 60))), (6, some (.var (.pv (.i .i64 (cnt w x.2))))), (3, some (.var (.vec 76 (msgE w))))]
noncomputable def stAl (l0 : Nat) (w : Msg) (M : List Msg) (j : Nat) : FS := mk [(15, .pv (.i .i64 j)), (14, .pv (.i .i64 M.length)), (13, .os 50), (0, .fn (.yield l0) []), (1000000, .pv (.i .i64 0)), (1000004, .p 3 0), (1000007, .p 6 0)] [(50, some (.row 1 ((M.map writeM).map bE))), (6, some (.var (.pv (.i .i64 (cnt w (M.drop j)))))), (3, some (.var (.vec 76 (msgE w))))]
theorem ps_108 : ∀ p ∈ [108, 109], p < big := by
 intro p hp
 have : big = 1000000 := rfl
 simp at hp; omega
set_option maxHeartbeats 16000000 in
theorem lawCounts {l : List Act} {w : Msg} (hl : ∀ a ∈ l, okM a.m) (hw : okM w) {h d} : FunOk Try.prog 6 [.pv (.sl false 78 (l.map actE)), .vec 76 (msgE w)] h d (.pv (.b true)) [] := by
 refine fun_pure mixed fn6 (by simp) rfl rfl fun F => ?_
 (try simp only [bK1, bK2, bK3, bK4, bK5, bK6, bK7, bK8]); simp (maxSteps := 10000000) (disch := omega) only [ir6, List.length_map, go_sem, ↓reduceIte, Nat.reduceEqDiff, Nat.reduceSub, Nat.reduceLeDiff, Nat.reduceAdd, Int.reduceEq, Int.reduceLT, Int.reduceLE]
 refine call_with livesBag ?_
 (try simp only [bK1, bK2, bK3, bK4, bK5, bK6, bK7, bK8]); simp (maxSteps := 10000000) (disch := omega) only [go_sem, ↓reduceIte, Nat.reduceEqDiff, Nat.reduceSub, Nat.reduceLeDiff, Nat.reduceAdd, Int.reduceEq, Int.reduceLT, Int.reduceLE]
 refine call_with (okFits fun a ha => (hl a ha).1) ?_
 cases hft : fitsB l with
 | false =>
  (try simp only [bK1, bK2, bK3, bK4, bK5, bK6, bK7, bK8]); simp (maxSteps := 10000000) (disch := omega) only [go_sem, ↓reduceIte, Nat.reduceEqDiff, Nat.reduceSub, Nat.reduceLeDiff, Nat.reduceAdd, Int.reduceEq, Int.reduceLT, Int.reduceLE]
  refine call_with livesBag ?_
  (try simp only [bK1, bK2, bK3, bK4, bK5, bK6, bK7, bK8]); simp (maxSteps := 10000000) (disch := omega) only [go_sem, ↓reduceIte, Nat.reduceEqDiff, Nat.reduceSub, Nat.reduceLeDiff, Nat.reduceAdd, Int.reduceEq, Int.reduceLT, Int.reduceLE]
 | true =>
 obtain ⟨f1, f2⟩ := fits_of hft
 have ew : [PV.i .i64 0 :: (msgE w ++ [PV.i .i64 0])] = [(⟨0, w, 0⟩ : Act)].map actE := rfl
 have hwl : (msgE w ++ [PV.i .i64 0]).length = 77 := by simp [msgE_len]
 have m60 : max (0 : Int) 60 = 60 := by omega
 (try simp only [bK1, bK2, bK3, bK4, bK5, bK6, bK7, bK8]); simp (maxSteps := 10000000) (disch := omega) only [hwl, go_sem, ↓reduceIte, Nat.reduceEqDiff, Nat.reduceSub, Nat.reduceLeDiff, Nat.reduceAdd, Int.reduceEq, Int.reduceLT, Int.reduceLE]
 rw [ew]
 refine call_with (FunOk.frz (n := 26) (sz := 78) (es := [(⟨0, w, 0⟩ : Act)].map actE) rfl (by simp [tops, tn]) rfl (okFits (l := [⟨0, w, 0⟩]) (h := fun _ => none) fun a ha => by rw [List.mem_singleton.1 ha]; exact hw.1)) ?_
 cases hfw : fitsB [(⟨0, w, 0⟩ : Act)] with
 | false =>
  (try simp only [bK1, bK2, bK3, bK4, bK5, bK6, bK7, bK8]); simp (maxSteps := 10000000) (disch := omega) only [go_sem, ↓reduceIte, Nat.reduceEqDiff, Nat.reduceSub, Nat.reduceLeDiff, Nat.reduceAdd, Int.reduceEq, Int.reduceLT, Int.reduceLE]
  refine call_with livesBag ?_
  (try simp only [bK1, bK2, bK3, bK4, bK5, bK6, bK7, bK8]); simp (maxSteps := 10000000) (disch := omega) only [go_sem, ↓reduceIte, Nat.reduceEqDiff, Nat.reduceSub, Nat.reduceLeDiff, Nat.reduceAdd, Int.reduceEq, Int.reduceLT, Int.reduceLE]
 | true =>
 have hwv : mv w := mv_of (a := ⟨0, w, 0⟩) ((fits_of hfw).2 _ (List.mem_singleton.2 rfl)) hw
 (try simp only [bK1, bK2, bK3, bK4, bK5, bK6, bK7, bK8]); simp (maxSteps := 10000000) (disch := omega) only [go_sem, ↓reduceIte, Nat.reduceEqDiff, Nat.reduceSub, Nat.reduceLeDiff, Nat.reduceAdd, Int.reduceEq, Int.reduceLT, Int.reduceLE]
 refine call_with (okNewB 60) ?_
 rw [m60]
 (try simp only [bK1, bK2, bK3, bK4, bK5, bK6, bK7, bK8]); simp (maxSteps := 10000000) (disch := omega) only [List.length_map, go_sem, ↓reduceIte, Nat.reduceEqDiff, Nat.reduceSub, Nat.reduceLeDiff, Nat.reduceAdd, Int.reduceEq, Int.reduceLT, Int.reduceLE]
 refine loop_ok mixed (stCn l w) (fun x => x.1 ≤ l.length ∧ x.2.length ≤ x.1 ∧ ∀ m ∈ x.2, mv m ∧ checkM m = true) (fun x => l.length - x.1) (0, []) ⟨Nat.zero_le _, Nat.zero_le _, fun m hm => by cases hm⟩ (weak_mk ?_ ?_) fun x hx => ?_
 · (try simp only [bK1, bK2, bK3, bK4, bK5, bK6, bK7, bK8]); simp (maxSteps := 10000000) (disch := omega) only [go_sem, ↓reduceIte, Nat.reduceEqDiff, Nat.reduceSub, Nat.reduceLeDiff, Nat.reduceAdd, Int.reduceEq, Int.reduceLT, Int.reduceLE]
 · (try simp only [bK1, bK2, bK3, bK4, bK5, bK6, bK7, bK8]); simp (maxSteps := 10000000) (disch := omega) only [bagV, imp_bag0, List.map_nil, show cnt w [] = 0 from rfl, go_sem, ↓reduceIte, Nat.reduceEqDiff, Nat.reduceSub, Nat.reduceLeDiff, Nat.reduceAdd, Int.reduceEq, Int.reduceLT, Int.reduceLE]
 obtain ⟨k, M⟩ := x
 obtain ⟨hk1, hk2, hk3⟩ := hx
 simp only at hk1 hk2 hk3
 by_cases hlt : k < l.length
 · have he : (l.map actE)[k]? = some (actE l[k]) := by simp [hlt]
   have hmem := List.getElem_mem hlt
   have hmv := mv_of (f2 _ hmem) (hl _ hmem)
   generalize l[k] = a at *
   obtain ⟨q, hq, hq7⟩ : ∃ q : Nat, (IntKind.u64.wrap a.kind).tmod 7 = q ∧ q < 7 := by
    have h0 := wrap_u64_mod a.kind
    have h1 : 0 ≤ IntKind.u64.wrap a.kind := by omega
    refine ⟨((IntKind.u64.wrap a.kind).tmod 7).toNat, ?_, ?_⟩ <;> rw [Int.tmod_eq_emod_of_nonneg h1] <;> omega
   have hMl : (M.map writeM).length ≤ 40 := by simp; omega
   have hcl := cnt_le w M
   (try simp only [bK1, bK2, bK3, bK4, bK5, bK6, bK7, bK8]); simp (maxSteps := 10000000) (disch := omega) only [stCn, List.length_map, he, go_sem, ↓reduceIte, Nat.reduceEqDiff, Nat.reduceSub, Nat.reduceLeDiff, Nat.reduceAdd, Int.reduceEq, Int.reduceLT, Int.reduceLE]
   have hgA : checkM a.m = true → ∀ m ∈ M ++ [a.m], mv m ∧ checkM m = true := fun hc m hm => (List.mem_append.1 hm).elim (hk3 m) fun h => by rw [List.mem_singleton.1 h]; exact ⟨hmv, hc⟩
   have hq3 : q = 3 ∨ ¬ (q : Int) = 3 := by omega
   have hq4 : q = 4 ∨ ¬ (q : Int) = 4 := by omega
   have hq5 : q = 5 ∨ ¬ (q : Int) = 5 := by omega
   have hq6 : q = 6 ∨ ¬ (q : Int) = 6 := by omega
   by_cases hv : 0 ≤ a.at_ ∧ a.at_ < ((M.map writeM).length : Int)
   rotate_left
   · refine call_with (okAtB_bad hv rfl) ?_
     rcases hq3 with rfl | n3
     · have z : ((3 : Nat) : Int) = 3 := rfl
       (try simp only [bK1, bK2, bK3, bK4, bK5, bK6, bK7, bK8]); simp (maxSteps := 10000000) (disch := omega) only [hq, z, go_sem, ↓reduceIte, Nat.reduceEqDiff, Nat.reduceSub, Nat.reduceLeDiff, Nat.reduceAdd, Int.reduceEq, Int.reduceLT, Int.reduceLE]
       refine call_with (okTakeB_bad hv rfl) ?_
       (try simp only [bK1, bK2, bK3, bK4, bK5, bK6, bK7, bK8]); simp (maxSteps := 10000000) (disch := omega) only [go_sem, ↓reduceIte, Nat.reduceEqDiff, Nat.reduceSub, Nat.reduceLeDiff, Nat.reduceAdd, Int.reduceEq, Int.reduceLT, Int.reduceLE]
       refine loop_next (x := (k, M)) (k + 1, M) _ _ rfl ⟨by show k + 1 ≤ _; omega, by show M.length ≤ k + 1; omega, hk3⟩ (by show _ - (k + 1) < _; omega) ?_ ?_
       · (try simp only [bK1, bK2, bK3, bK4, bK5, bK6, bK7, bK8]); simp (maxSteps := 10000000) (disch := omega) only [go_sem, ↓reduceIte, Nat.reduceEqDiff, Nat.reduceSub, Nat.reduceLeDiff, Nat.reduceAdd, Int.reduceEq, Int.reduceLT, Int.reduceLE]
       · (try simp only [bK1, bK2, bK3, bK4, bK5, bK6, bK7, bK8]); simp (maxSteps := 10000000) (disch := omega) only [go_sem, ↓reduceIte, Nat.reduceEqDiff, Nat.reduceSub, Nat.reduceLeDiff, Nat.reduceAdd, Int.reduceEq, Int.reduceLT, Int.reduceLE]
     rcases hq4 with rfl | n4
     · have z : ((4 : Nat) : Int) = 4 := rfl
       (try simp only [bK1, bK2, bK3, bK4, bK5, bK6, bK7, bK8]); simp (maxSteps := 10000000) (disch := omega) only [hq, z, go_sem, ↓reduceIte, Nat.reduceEqDiff, Nat.reduceSub, Nat.reduceLeDiff, Nat.reduceAdd, Int.reduceEq, Int.reduceLT, Int.reduceLE]
       refine call_with (okCopyB_bad hv rfl) ?_
       (try simp only [bK1, bK2, bK3, bK4, bK5, bK6, bK7, bK8]); simp (maxSteps := 10000000) (disch := omega) only [go_sem, ↓reduceIte, Nat.reduceEqDiff, Nat.reduceSub, Nat.reduceLeDiff, Nat.reduceAdd, Int.reduceEq, Int.reduceLT, Int.reduceLE]
       refine loop_next (x := (k, M)) (k + 1, M) _ _ rfl ⟨by show k + 1 ≤ _; omega, by show M.length ≤ k + 1; omega, hk3⟩ (by show _ - (k + 1) < _; omega) ?_ ?_
       · (try simp only [bK1, bK2, bK3, bK4, bK5, bK6, bK7, bK8]); simp (maxSteps := 10000000) (disch := omega) only [go_sem, ↓reduceIte, Nat.reduceEqDiff, Nat.reduceSub, Nat.reduceLeDiff, Nat.reduceAdd, Int.reduceEq, Int.reduceLT, Int.reduceLE]
       · (try simp only [bK1, bK2, bK3, bK4, bK5, bK6, bK7, bK8]); simp (maxSteps := 10000000) (disch := omega) only [go_sem, ↓reduceIte, Nat.reduceEqDiff, Nat.reduceSub, Nat.reduceLeDiff, Nat.reduceAdd, Int.reduceEq, Int.reduceLT, Int.reduceLE]
     rcases hq5 with rfl | n5
     · have z : ((5 : Nat) : Int) = 5 := rfl
       (try simp only [bK1, bK2, bK3, bK4, bK5, bK6, bK7, bK8]); simp (maxSteps := 10000000) (disch := omega) only [hq, z, go_sem, ↓reduceIte, Nat.reduceEqDiff, Nat.reduceSub, Nat.reduceLeDiff, Nat.reduceAdd, Int.reduceEq, Int.reduceLT, Int.reduceLE]
       refine call_with (okLateB_bad hv rfl) ?_
       (try simp only [bK1, bK2, bK3, bK4, bK5, bK6, bK7, bK8]); simp (maxSteps := 10000000) (disch := omega) only [go_sem, ↓reduceIte, Nat.reduceEqDiff, Nat.reduceSub, Nat.reduceLeDiff, Nat.reduceAdd, Int.reduceEq, Int.reduceLT, Int.reduceLE]
       refine loop_next (x := (k, M)) (k + 1, M) _ _ rfl ⟨by show k + 1 ≤ _; omega, by show M.length ≤ k + 1; omega, hk3⟩ (by show _ - (k + 1) < _; omega) ?_ ?_
       · (try simp only [bK1, bK2, bK3, bK4, bK5, bK6, bK7, bK8]); simp (maxSteps := 10000000) (disch := omega) only [go_sem, ↓reduceIte, Nat.reduceEqDiff, Nat.reduceSub, Nat.reduceLeDiff, Nat.reduceAdd, Int.reduceEq, Int.reduceLT, Int.reduceLE]
       · (try simp only [bK1, bK2, bK3, bK4, bK5, bK6, bK7, bK8]); simp (maxSteps := 10000000) (disch := omega) only [go_sem, ↓reduceIte, Nat.reduceEqDiff, Nat.reduceSub, Nat.reduceLeDiff, Nat.reduceAdd, Int.reduceEq, Int.reduceLT, Int.reduceLE]
     rcases hq6 with rfl | n6
     · have z : ((6 : Nat) : Int) = 6 := rfl
       (try simp only [bK1, bK2, bK3, bK4, bK5, bK6, bK7, bK8]); simp (maxSteps := 10000000) (disch := omega) only [hq, z, go_sem, ↓reduceIte, Nat.reduceEqDiff, Nat.reduceSub, Nat.reduceLeDiff, Nat.reduceAdd, Int.reduceEq, Int.reduceLT, Int.reduceLE]
       refine loop_next (x := (k, M)) (k + 1, M) _ _ rfl ⟨by show k + 1 ≤ _; omega, by show M.length ≤ k + 1; omega, hk3⟩ (by show _ - (k + 1) < _; omega) ?_ ?_
       · (try simp only [bK1, bK2, bK3, bK4, bK5, bK6, bK7, bK8]); simp (maxSteps := 10000000) (disch := omega) only [go_sem, ↓reduceIte, Nat.reduceEqDiff, Nat.reduceSub, Nat.reduceLeDiff, Nat.reduceAdd, Int.reduceEq, Int.reduceLT, Int.reduceLE]
       · (try simp only [bK1, bK2, bK3, bK4, bK5, bK6, bK7, bK8]); simp (maxSteps := 10000000) (disch := omega) only [go_sem, ↓reduceIte, Nat.reduceEqDiff, Nat.reduceSub, Nat.reduceLeDiff, Nat.reduceAdd, Int.reduceEq, Int.reduceLT, Int.reduceLE]
     (try simp only [bK1, bK2, bK3, bK4, bK5, bK6, bK7, bK8]); simp (maxSteps := 10000000) (disch := omega) only [hq, n3, n4, n5, n6, go_sem, ↓reduceIte, Nat.reduceEqDiff, Nat.reduceSub, Nat.reduceLeDiff, Nat.reduceAdd, Int.reduceEq, Int.reduceLT, Int.reduceLE]
     by_cases hc : checkM a.m = true
     · refine call_with (okPutB a.m hmv hc (by omega) (.inr rfl) (by omega) rfl) ?_
       rw [show M.map writeM ++ [writeM a.m] = (M ++ [a.m]).map writeM by simp]
       (try simp only [bK1, bK2, bK3, bK4, bK5, bK6, bK7, bK8]); simp (maxSteps := 10000000) (disch := omega) only [go_sem, ↓reduceIte, Nat.reduceEqDiff, Nat.reduceSub, Nat.reduceLeDiff, Nat.reduceAdd, Int.reduceEq, Int.reduceLT, Int.reduceLE]
       refine call_with (okSameM a.m w hmv hwv) ?_
       cases hs : sameM a.m w
       · have hcn : ((cnt w (M ++ [a.m]) : Nat) : Int) = (cnt w M : Int) := by rw [cnt_app, cnt_one, hs]; simp
         (try simp only [bK1, bK2, bK3, bK4, bK5, bK6, bK7, bK8]); simp (maxSteps := 10000000) (disch := omega) only [go_sem, ↓reduceIte, Nat.reduceEqDiff, Nat.reduceSub, Nat.reduceLeDiff, Nat.reduceAdd, Int.reduceEq, Int.reduceLT, Int.reduceLE]
         refine loop_next (x := (k, M)) (k + 1, M ++ [a.m]) _ _ rfl ⟨by show k + 1 ≤ _; omega, by show (M ++ [a.m]).length ≤ k + 1; simp; omega, hgA hc⟩ (by show _ - (k + 1) < _; omega) ?_ ?_
         · (try simp only [bK1, bK2, bK3, bK4, bK5, bK6, bK7, bK8]); simp (maxSteps := 10000000) (disch := omega) only [go_sem, ↓reduceIte, Nat.reduceEqDiff, Nat.reduceSub, Nat.reduceLeDiff, Nat.reduceAdd, Int.reduceEq, Int.reduceLT, Int.reduceLE]
         · (try simp only [bK1, bK2, bK3, bK4, bK5, bK6, bK7, bK8]); simp (maxSteps := 10000000) (disch := omega) only [hcn, go_sem, ↓reduceIte, Nat.reduceEqDiff, Nat.reduceSub, Nat.reduceLeDiff, Nat.reduceAdd, Int.reduceEq, Int.reduceLT, Int.reduceLE]
       · have hcn : ((cnt w (M ++ [a.m]) : Nat) : Int) = (cnt w M : Int) + 1 := by rw [cnt_app, cnt_one, hs]; simp
         (try simp only [bK1, bK2, bK3, bK4, bK5, bK6, bK7, bK8]); simp (maxSteps := 10000000) (disch := omega) only [go_sem, ↓reduceIte, Nat.reduceEqDiff, Nat.reduceSub, Nat.reduceLeDiff, Nat.reduceAdd, Int.reduceEq, Int.reduceLT, Int.reduceLE]
         refine loop_next (x := (k, M)) (k + 1, M ++ [a.m]) _ _ rfl ⟨by show k + 1 ≤ _; omega, by show (M ++ [a.m]).length ≤ k + 1; simp; omega, hgA hc⟩ (by show _ - (k + 1) < _; omega) ?_ ?_
         · (try simp only [bK1, bK2, bK3, bK4, bK5, bK6, bK7, bK8]); simp (maxSteps := 10000000) (disch := omega) only [go_sem, ↓reduceIte, Nat.reduceEqDiff, Nat.reduceSub, Nat.reduceLeDiff, Nat.reduceAdd, Int.reduceEq, Int.reduceLT, Int.reduceLE]
         · (try simp only [bK1, bK2, bK3, bK4, bK5, bK6, bK7, bK8]); simp (maxSteps := 10000000) (disch := omega) only [hcn, go_sem, ↓reduceIte, Nat.reduceEqDiff, Nat.reduceSub, Nat.reduceLeDiff, Nat.reduceAdd, Int.reduceEq, Int.reduceLT, Int.reduceLE]
     · refine call_with (okPutB_bad a.m hmv (by simpa using hc) rfl) ?_
       (try simp only [bK1, bK2, bK3, bK4, bK5, bK6, bK7, bK8]); simp (maxSteps := 10000000) (disch := omega) only [go_sem, ↓reduceIte, Nat.reduceEqDiff, Nat.reduceSub, Nat.reduceLeDiff, Nat.reduceAdd, Int.reduceEq, Int.reduceLT, Int.reduceLE]
       refine loop_next (x := (k, M)) (k + 1, M) _ _ rfl ⟨by show k + 1 ≤ _; omega, by show M.length ≤ k + 1; omega, hk3⟩ (by show _ - (k + 1) < _; omega) ?_ ?_
       · (try simp only [bK1, bK2, bK3, bK4, bK5, bK6, bK7, bK8]); simp (maxSteps := 10000000) (disch := omega) only [go_sem, ↓reduceIte, Nat.reduceEqDiff, Nat.reduceSub, Nat.reduceLeDiff, Nat.reduceAdd, Int.reduceEq, Int.reduceLT, Int.reduceLE]
       · (try simp only [bK1, bK2, bK3, bK4, bK5, bK6, bK7, bK8]); simp (maxSteps := 10000000) (disch := omega) only [go_sem, ↓reduceIte, Nat.reduceEqDiff, Nat.reduceSub, Nat.reduceLeDiff, Nat.reduceAdd, Int.reduceEq, Int.reduceLT, Int.reduceLE]
   obtain ⟨i, hi⟩ : ∃ i : Nat, a.at_ = i := ⟨a.at_.toNat, by omega⟩
   have hiM : i < M.length := by have := hv.2; rw [List.length_map] at this; omega
   have hMi : M[i]? = some M[i] := List.getElem?_eq_getElem hiM
   have hm := hk3 _ (List.getElem_mem hiM)
   generalize M[i] = m at *
   have hgi : (M.map writeM)[i]? = some (writeM m) := by rw [List.getElem?_map, hMi]; rfl
   have hcc := cnt_cut w hMi
   have hgT : ∀ x ∈ M.take i ++ M.drop (i + 1), mv x ∧ checkM x = true := fun x hx => (List.mem_append.1 hx).elim (fun h => hk3 x (List.mem_of_mem_take h)) fun h => hk3 x (List.mem_of_mem_drop h)
   have hTl : (M.take i ++ M.drop (i + 1)).length ≤ k := by simp; omega
   rw [hi]
   refine call_with (okAtB (.inr rfl) hgi hm.1 hm.2 rfl) ?_
   (try simp only [bK1, bK2, bK3, bK4, bK5, bK6, bK7, bK8]); simp (maxSteps := 10000000) (disch := omega) only [segM_cells, mkOr_sgM, go_sem, ↓reduceIte, Nat.reduceEqDiff, Nat.reduceSub, Nat.reduceLeDiff, Nat.reduceAdd, Int.reduceEq, Int.reduceLT, Int.reduceLE]
   refine call_with (okSameMA (canM m) w (mv_can hm.1) hwv) ?_
   rw [sameM_can]
   have hc1 := cnt_one w m
   have hca : cnt w (M ++ [m]) = cnt w M + cnt w [m] := cnt_app ..
   have hcl' : cnt w (M.take i ++ M.drop (i + 1) ++ [m]) = cnt w (M.take i ++ M.drop (i + 1)) + cnt w [m] := cnt_app ..
   have hgM : ∀ x ∈ M ++ [m], mv x ∧ checkM x = true := fun x hx => (List.mem_append.1 hx).elim (hk3 x) fun h => by rw [List.mem_singleton.1 h]; exact hm
   have hgL : ∀ x ∈ M.take i ++ M.drop (i + 1) ++ [m], mv x ∧ checkM x = true := fun x hx => (List.mem_append.1 hx).elim (hgT x) fun h => by rw [List.mem_singleton.1 h]; exact hm
   cases his : sameM m w
   · rw [if_neg (by rw [his]; decide)] at hc1
     rcases hq3 with rfl | n3
     · have z : ((3 : Nat) : Int) = 3 := rfl
       have hcn : ((cnt w (M.take i ++ M.drop (i + 1)) : Nat) : Int) = (cnt w M : Int) := by omega
       (try simp only [bK1, bK2, bK3, bK4, bK5, bK6, bK7, bK8]); simp (maxSteps := 10000000) (disch := omega) only [hq, z, hi, go_sem, ↓reduceIte, Nat.reduceEqDiff, Nat.reduceSub, Nat.reduceLeDiff, Nat.reduceAdd, Int.reduceEq, Int.reduceLT, Int.reduceLE]
       refine call_with (okTakeB (.inr rfl) hgi hm.1 hm.2 (by omega) rfl) ?_
       rw [show (M.map writeM).take i ++ (M.map writeM).drop (i + 1) = (M.take i ++ M.drop (i + 1)).map writeM by simp]
       (try simp only [bK1, bK2, bK3, bK4, bK5, bK6, bK7, bK8]); simp (maxSteps := 10000000) (disch := omega) only [go_sem, ↓reduceIte, Nat.reduceEqDiff, Nat.reduceSub, Nat.reduceLeDiff, Nat.reduceAdd, Int.reduceEq, Int.reduceLT, Int.reduceLE]
       refine loop_next (x := (k, M)) (k + 1, M.take i ++ M.drop (i + 1)) _ _ rfl ⟨by show k + 1 ≤ _; omega, by show (M.take i ++ M.drop (i + 1)).length ≤ k + 1; omega, hgT⟩ (by show _ - (k + 1) < _; omega) ?_ ?_
       · (try simp only [bK1, bK2, bK3, bK4, bK5, bK6, bK7, bK8]); simp (maxSteps := 10000000) (disch := omega) only [go_sem, ↓reduceIte, Nat.reduceEqDiff, Nat.reduceSub, Nat.reduceLeDiff, Nat.reduceAdd, Int.reduceEq, Int.reduceLT, Int.reduceLE]
       · (try simp only [bK1, bK2, bK3, bK4, bK5, bK6, bK7, bK8]); simp (maxSteps := 10000000) (disch := omega) only [hcn, go_sem, ↓reduceIte, Nat.reduceEqDiff, Nat.reduceSub, Nat.reduceLeDiff, Nat.reduceAdd, Int.reduceEq, Int.reduceLT, Int.reduceLE]
     rcases hq4 with rfl | n4
     · have z : ((4 : Nat) : Int) = 4 := rfl
       have hcn : ((cnt w (M ++ [m]) : Nat) : Int) = (cnt w M : Int) := by omega
       (try simp only [bK1, bK2, bK3, bK4, bK5, bK6, bK7, bK8]); simp (maxSteps := 10000000) (disch := omega) only [hq, z, hi, go_sem, ↓reduceIte, Nat.reduceEqDiff, Nat.reduceSub, Nat.reduceLeDiff, Nat.reduceAdd, Int.reduceEq, Int.reduceLT, Int.reduceLE]
       refine call_with (okCopyB (.inr rfl) hgi hm.1 hm.2 (by omega) (by omega) rfl) ?_
       rw [show M.map writeM ++ [writeM m] = (M ++ [m]).map writeM by simp]
       (try simp only [bK1, bK2, bK3, bK4, bK5, bK6, bK7, bK8]); simp (maxSteps := 10000000) (disch := omega) only [go_sem, ↓reduceIte, Nat.reduceEqDiff, Nat.reduceSub, Nat.reduceLeDiff, Nat.reduceAdd, Int.reduceEq, Int.reduceLT, Int.reduceLE]
       refine loop_next (x := (k, M)) (k + 1, M ++ [m]) _ _ rfl ⟨by show k + 1 ≤ _; omega, by show (M ++ [m]).length ≤ k + 1; simp; omega, hgM⟩ (by show _ - (k + 1) < _; omega) ?_ ?_
       · (try simp only [bK1, bK2, bK3, bK4, bK5, bK6, bK7, bK8]); simp (maxSteps := 10000000) (disch := omega) only [go_sem, ↓reduceIte, Nat.reduceEqDiff, Nat.reduceSub, Nat.reduceLeDiff, Nat.reduceAdd, Int.reduceEq, Int.reduceLT, Int.reduceLE]
       · (try simp only [bK1, bK2, bK3, bK4, bK5, bK6, bK7, bK8]); simp (maxSteps := 10000000) (disch := omega) only [hcn, go_sem, ↓reduceIte, Nat.reduceEqDiff, Nat.reduceSub, Nat.reduceLeDiff, Nat.reduceAdd, Int.reduceEq, Int.reduceLT, Int.reduceLE]
     rcases hq5 with rfl | n5
     · have z : ((5 : Nat) : Int) = 5 := rfl
       have hcn : ((cnt w (M.take i ++ M.drop (i + 1) ++ [m]) : Nat) : Int) = (cnt w M : Int) := by omega
       (try simp only [bK1, bK2, bK3, bK4, bK5, bK6, bK7, bK8]); simp (maxSteps := 10000000) (disch := omega) only [hq, z, hi, go_sem, ↓reduceIte, Nat.reduceEqDiff, Nat.reduceSub, Nat.reduceLeDiff, Nat.reduceAdd, Int.reduceEq, Int.reduceLT, Int.reduceLE]
       refine call_with (okLateB (.inr rfl) hgi (by omega) rfl) ?_
       rw [show (M.map writeM).take i ++ (M.map writeM).drop (i + 1) ++ [writeM m] = (M.take i ++ M.drop (i + 1) ++ [m]).map writeM by simp]
       (try simp only [bK1, bK2, bK3, bK4, bK5, bK6, bK7, bK8]); simp (maxSteps := 10000000) (disch := omega) only [go_sem, ↓reduceIte, Nat.reduceEqDiff, Nat.reduceSub, Nat.reduceLeDiff, Nat.reduceAdd, Int.reduceEq, Int.reduceLT, Int.reduceLE]
       refine loop_next (x := (k, M)) (k + 1, M.take i ++ M.drop (i + 1) ++ [m]) _ _ rfl ⟨by show k + 1 ≤ _; omega, by show (M.take i ++ M.drop (i + 1) ++ [m]).length ≤ k + 1; simp only [List.length_append, List.length_singleton] at hTl ⊢; omega, hgL⟩ (by show _ - (k + 1) < _; omega) ?_ ?_
       · (try simp only [bK1, bK2, bK3, bK4, bK5, bK6, bK7, bK8]); simp (maxSteps := 10000000) (disch := omega) only [go_sem, ↓reduceIte, Nat.reduceEqDiff, Nat.reduceSub, Nat.reduceLeDiff, Nat.reduceAdd, Int.reduceEq, Int.reduceLT, Int.reduceLE]
       · (try simp only [bK1, bK2, bK3, bK4, bK5, bK6, bK7, bK8]); simp (maxSteps := 10000000) (disch := omega) only [hcn, go_sem, ↓reduceIte, Nat.reduceEqDiff, Nat.reduceSub, Nat.reduceLeDiff, Nat.reduceAdd, Int.reduceEq, Int.reduceLT, Int.reduceLE]
     rcases hq6 with rfl | n6
     · have z : ((6 : Nat) : Int) = 6 := rfl
       (try simp only [bK1, bK2, bK3, bK4, bK5, bK6, bK7, bK8]); simp (maxSteps := 10000000) (disch := omega) only [hq, z, hi, go_sem, ↓reduceIte, Nat.reduceEqDiff, Nat.reduceSub, Nat.reduceLeDiff, Nat.reduceAdd, Int.reduceEq, Int.reduceLT, Int.reduceLE]
       refine loop_next (x := (k, M)) (k + 1, M) _ _ rfl ⟨by show k + 1 ≤ _; omega, by show M.length ≤ k + 1; omega, hk3⟩ (by show _ - (k + 1) < _; omega) ?_ ?_
       · (try simp only [bK1, bK2, bK3, bK4, bK5, bK6, bK7, bK8]); simp (maxSteps := 10000000) (disch := omega) only [go_sem, ↓reduceIte, Nat.reduceEqDiff, Nat.reduceSub, Nat.reduceLeDiff, Nat.reduceAdd, Int.reduceEq, Int.reduceLT, Int.reduceLE]
       · (try simp only [bK1, bK2, bK3, bK4, bK5, bK6, bK7, bK8]); simp (maxSteps := 10000000) (disch := omega) only [go_sem, ↓reduceIte, Nat.reduceEqDiff, Nat.reduceSub, Nat.reduceLeDiff, Nat.reduceAdd, Int.reduceEq, Int.reduceLT, Int.reduceLE]
     (try simp only [bK1, bK2, bK3, bK4, bK5, bK6, bK7, bK8]); simp (maxSteps := 10000000) (disch := omega) only [hq, n3, n4, n5, n6, hi, go_sem, ↓reduceIte, Nat.reduceEqDiff, Nat.reduceSub, Nat.reduceLeDiff, Nat.reduceAdd, Int.reduceEq, Int.reduceLT, Int.reduceLE]
     by_cases hc : checkM a.m = true
     · refine call_with (okPutB a.m hmv hc (by omega) (.inr rfl) (by omega) rfl) ?_
       rw [show M.map writeM ++ [writeM a.m] = (M ++ [a.m]).map writeM by simp]
       (try simp only [bK1, bK2, bK3, bK4, bK5, bK6, bK7, bK8]); simp (maxSteps := 10000000) (disch := omega) only [go_sem, ↓reduceIte, Nat.reduceEqDiff, Nat.reduceSub, Nat.reduceLeDiff, Nat.reduceAdd, Int.reduceEq, Int.reduceLT, Int.reduceLE]
       refine call_with (okSameM a.m w hmv hwv) ?_
       cases hs : sameM a.m w
       · have hcn : ((cnt w (M ++ [a.m]) : Nat) : Int) = (cnt w M : Int) := by rw [cnt_app, cnt_one, hs]; simp
         (try simp only [bK1, bK2, bK3, bK4, bK5, bK6, bK7, bK8]); simp (maxSteps := 10000000) (disch := omega) only [go_sem, ↓reduceIte, Nat.reduceEqDiff, Nat.reduceSub, Nat.reduceLeDiff, Nat.reduceAdd, Int.reduceEq, Int.reduceLT, Int.reduceLE]
         refine loop_next (x := (k, M)) (k + 1, M ++ [a.m]) _ _ rfl ⟨by show k + 1 ≤ _; omega, by show (M ++ [a.m]).length ≤ k + 1; simp; omega, hgA hc⟩ (by show _ - (k + 1) < _; omega) ?_ ?_
         · (try simp only [bK1, bK2, bK3, bK4, bK5, bK6, bK7, bK8]); simp (maxSteps := 10000000) (disch := omega) only [go_sem, ↓reduceIte, Nat.reduceEqDiff, Nat.reduceSub, Nat.reduceLeDiff, Nat.reduceAdd, Int.reduceEq, Int.reduceLT, Int.reduceLE]
         · (try simp only [bK1, bK2, bK3, bK4, bK5, bK6, bK7, bK8]); simp (maxSteps := 10000000) (disch := omega) only [hcn, go_sem, ↓reduceIte, Nat.reduceEqDiff, Nat.reduceSub, Nat.reduceLeDiff, Nat.reduceAdd, Int.reduceEq, Int.reduceLT, Int.reduceLE]
       · have hcn : ((cnt w (M ++ [a.m]) : Nat) : Int) = (cnt w M : Int) + 1 := by rw [cnt_app, cnt_one, hs]; simp
         (try simp only [bK1, bK2, bK3, bK4, bK5, bK6, bK7, bK8]); simp (maxSteps := 10000000) (disch := omega) only [go_sem, ↓reduceIte, Nat.reduceEqDiff, Nat.reduceSub, Nat.reduceLeDiff, Nat.reduceAdd, Int.reduceEq, Int.reduceLT, Int.reduceLE]
         refine loop_next (x := (k, M)) (k + 1, M ++ [a.m]) _ _ rfl ⟨by show k + 1 ≤ _; omega, by show (M ++ [a.m]).length ≤ k + 1; simp; omega, hgA hc⟩ (by show _ - (k + 1) < _; omega) ?_ ?_
         · (try simp only [bK1, bK2, bK3, bK4, bK5, bK6, bK7, bK8]); simp (maxSteps := 10000000) (disch := omega) only [go_sem, ↓reduceIte, Nat.reduceEqDiff, Nat.reduceSub, Nat.reduceLeDiff, Nat.reduceAdd, Int.reduceEq, Int.reduceLT, Int.reduceLE]
         · (try simp only [bK1, bK2, bK3, bK4, bK5, bK6, bK7, bK8]); simp (maxSteps := 10000000) (disch := omega) only [hcn, go_sem, ↓reduceIte, Nat.reduceEqDiff, Nat.reduceSub, Nat.reduceLeDiff, Nat.reduceAdd, Int.reduceEq, Int.reduceLT, Int.reduceLE]
     · refine call_with (okPutB_bad a.m hmv (by simpa using hc) rfl) ?_
       (try simp only [bK1, bK2, bK3, bK4, bK5, bK6, bK7, bK8]); simp (maxSteps := 10000000) (disch := omega) only [go_sem, ↓reduceIte, Nat.reduceEqDiff, Nat.reduceSub, Nat.reduceLeDiff, Nat.reduceAdd, Int.reduceEq, Int.reduceLT, Int.reduceLE]
       refine loop_next (x := (k, M)) (k + 1, M) _ _ rfl ⟨by show k + 1 ≤ _; omega, by show M.length ≤ k + 1; omega, hk3⟩ (by show _ - (k + 1) < _; omega) ?_ ?_
       · (try simp only [bK1, bK2, bK3, bK4, bK5, bK6, bK7, bK8]); simp (maxSteps := 10000000) (disch := omega) only [go_sem, ↓reduceIte, Nat.reduceEqDiff, Nat.reduceSub, Nat.reduceLeDiff, Nat.reduceAdd, Int.reduceEq, Int.reduceLT, Int.reduceLE]
       · (try simp only [bK1, bK2, bK3, bK4, bK5, bK6, bK7, bK8]); simp (maxSteps := 10000000) (disch := omega) only [go_sem, ↓reduceIte, Nat.reduceEqDiff, Nat.reduceSub, Nat.reduceLeDiff, Nat.reduceAdd, Int.reduceEq, Int.reduceLT, Int.reduceLE]
   · rw [if_pos his] at hc1
     rcases hq3 with rfl | n3
     · have z : ((3 : Nat) : Int) = 3 := rfl
       have hcn : ((cnt w (M.take i ++ M.drop (i + 1)) : Nat) : Int) = (cnt w M : Int) - 1 := by omega
       (try simp only [bK1, bK2, bK3, bK4, bK5, bK6, bK7, bK8]); simp (maxSteps := 10000000) (disch := omega) only [hq, z, hi, go_sem, ↓reduceIte, Nat.reduceEqDiff, Nat.reduceSub, Nat.reduceLeDiff, Nat.reduceAdd, Int.reduceEq, Int.reduceLT, Int.reduceLE]
       refine call_with (okTakeB (.inr rfl) hgi hm.1 hm.2 (by omega) rfl) ?_
       rw [show (M.map writeM).take i ++ (M.map writeM).drop (i + 1) = (M.take i ++ M.drop (i + 1)).map writeM by simp]
       (try simp only [bK1, bK2, bK3, bK4, bK5, bK6, bK7, bK8]); simp (maxSteps := 10000000) (disch := omega) only [go_sem, ↓reduceIte, Nat.reduceEqDiff, Nat.reduceSub, Nat.reduceLeDiff, Nat.reduceAdd, Int.reduceEq, Int.reduceLT, Int.reduceLE]
       refine loop_next (x := (k, M)) (k + 1, M.take i ++ M.drop (i + 1)) _ _ rfl ⟨by show k + 1 ≤ _; omega, by show (M.take i ++ M.drop (i + 1)).length ≤ k + 1; omega, hgT⟩ (by show _ - (k + 1) < _; omega) ?_ ?_
       · (try simp only [bK1, bK2, bK3, bK4, bK5, bK6, bK7, bK8]); simp (maxSteps := 10000000) (disch := omega) only [go_sem, ↓reduceIte, Nat.reduceEqDiff, Nat.reduceSub, Nat.reduceLeDiff, Nat.reduceAdd, Int.reduceEq, Int.reduceLT, Int.reduceLE]
       · (try simp only [bK1, bK2, bK3, bK4, bK5, bK6, bK7, bK8]); simp (maxSteps := 10000000) (disch := omega) only [hcn, go_sem, ↓reduceIte, Nat.reduceEqDiff, Nat.reduceSub, Nat.reduceLeDiff, Nat.reduceAdd, Int.reduceEq, Int.reduceLT, Int.reduceLE]
     rcases hq4 with rfl | n4
     · have z : ((4 : Nat) : Int) = 4 := rfl
       have hcn : ((cnt w (M ++ [m]) : Nat) : Int) = (cnt w M : Int) + 1 := by omega
       (try simp only [bK1, bK2, bK3, bK4, bK5, bK6, bK7, bK8]); simp (maxSteps := 10000000) (disch := omega) only [hq, z, hi, go_sem, ↓reduceIte, Nat.reduceEqDiff, Nat.reduceSub, Nat.reduceLeDiff, Nat.reduceAdd, Int.reduceEq, Int.reduceLT, Int.reduceLE]
       refine call_with (okCopyB (.inr rfl) hgi hm.1 hm.2 (by omega) (by omega) rfl) ?_
       rw [show M.map writeM ++ [writeM m] = (M ++ [m]).map writeM by simp]
       (try simp only [bK1, bK2, bK3, bK4, bK5, bK6, bK7, bK8]); simp (maxSteps := 10000000) (disch := omega) only [go_sem, ↓reduceIte, Nat.reduceEqDiff, Nat.reduceSub, Nat.reduceLeDiff, Nat.reduceAdd, Int.reduceEq, Int.reduceLT, Int.reduceLE]
       refine loop_next (x := (k, M)) (k + 1, M ++ [m]) _ _ rfl ⟨by show k + 1 ≤ _; omega, by show (M ++ [m]).length ≤ k + 1; simp; omega, hgM⟩ (by show _ - (k + 1) < _; omega) ?_ ?_
       · (try simp only [bK1, bK2, bK3, bK4, bK5, bK6, bK7, bK8]); simp (maxSteps := 10000000) (disch := omega) only [go_sem, ↓reduceIte, Nat.reduceEqDiff, Nat.reduceSub, Nat.reduceLeDiff, Nat.reduceAdd, Int.reduceEq, Int.reduceLT, Int.reduceLE]
       · (try simp only [bK1, bK2, bK3, bK4, bK5, bK6, bK7, bK8]); simp (maxSteps := 10000000) (disch := omega) only [hcn, go_sem, ↓reduceIte, Nat.reduceEqDiff, Nat.reduceSub, Nat.reduceLeDiff, Nat.reduceAdd, Int.reduceEq, Int.reduceLT, Int.reduceLE]
     rcases hq5 with rfl | n5
     · have z : ((5 : Nat) : Int) = 5 := rfl
       have hcn : ((cnt w (M.take i ++ M.drop (i + 1) ++ [m]) : Nat) : Int) = (cnt w M : Int) := by omega
       (try simp only [bK1, bK2, bK3, bK4, bK5, bK6, bK7, bK8]); simp (maxSteps := 10000000) (disch := omega) only [hq, z, hi, go_sem, ↓reduceIte, Nat.reduceEqDiff, Nat.reduceSub, Nat.reduceLeDiff, Nat.reduceAdd, Int.reduceEq, Int.reduceLT, Int.reduceLE]
       refine call_with (okLateB (.inr rfl) hgi (by omega) rfl) ?_
       rw [show (M.map writeM).take i ++ (M.map writeM).drop (i + 1) ++ [writeM m] = (M.take i ++ M.drop (i + 1) ++ [m]).map writeM by simp]
       (try simp only [bK1, bK2, bK3, bK4, bK5, bK6, bK7, bK8]); simp (maxSteps := 10000000) (disch := omega) only [go_sem, ↓reduceIte, Nat.reduceEqDiff, Nat.reduceSub, Nat.reduceLeDiff, Nat.reduceAdd, Int.reduceEq, Int.reduceLT, Int.reduceLE]
       refine loop_next (x := (k, M)) (k + 1, M.take i ++ M.drop (i + 1) ++ [m]) _ _ rfl ⟨by show k + 1 ≤ _; omega, by show (M.take i ++ M.drop (i + 1) ++ [m]).length ≤ k + 1; simp only [List.length_append, List.length_singleton] at hTl ⊢; omega, hgL⟩ (by show _ - (k + 1) < _; omega) ?_ ?_
       · (try simp only [bK1, bK2, bK3, bK4, bK5, bK6, bK7, bK8]); simp (maxSteps := 10000000) (disch := omega) only [go_sem, ↓reduceIte, Nat.reduceEqDiff, Nat.reduceSub, Nat.reduceLeDiff, Nat.reduceAdd, Int.reduceEq, Int.reduceLT, Int.reduceLE]
       · (try simp only [bK1, bK2, bK3, bK4, bK5, bK6, bK7, bK8]); simp (maxSteps := 10000000) (disch := omega) only [hcn, go_sem, ↓reduceIte, Nat.reduceEqDiff, Nat.reduceSub, Nat.reduceLeDiff, Nat.reduceAdd, Int.reduceEq, Int.reduceLT, Int.reduceLE]
     rcases hq6 with rfl | n6
     · have z : ((6 : Nat) : Int) = 6 := rfl
       (try simp only [bK1, bK2, bK3, bK4, bK5, bK6, bK7, bK8]); simp (maxSteps := 10000000) (disch := omega) only [hq, z, hi, go_sem, ↓reduceIte, Nat.reduceEqDiff, Nat.reduceSub, Nat.reduceLeDiff, Nat.reduceAdd, Int.reduceEq, Int.reduceLT, Int.reduceLE]
       refine loop_next (x := (k, M)) (k + 1, M) _ _ rfl ⟨by show k + 1 ≤ _; omega, by show M.length ≤ k + 1; omega, hk3⟩ (by show _ - (k + 1) < _; omega) ?_ ?_
       · (try simp only [bK1, bK2, bK3, bK4, bK5, bK6, bK7, bK8]); simp (maxSteps := 10000000) (disch := omega) only [go_sem, ↓reduceIte, Nat.reduceEqDiff, Nat.reduceSub, Nat.reduceLeDiff, Nat.reduceAdd, Int.reduceEq, Int.reduceLT, Int.reduceLE]
       · (try simp only [bK1, bK2, bK3, bK4, bK5, bK6, bK7, bK8]); simp (maxSteps := 10000000) (disch := omega) only [go_sem, ↓reduceIte, Nat.reduceEqDiff, Nat.reduceSub, Nat.reduceLeDiff, Nat.reduceAdd, Int.reduceEq, Int.reduceLT, Int.reduceLE]
     (try simp only [bK1, bK2, bK3, bK4, bK5, bK6, bK7, bK8]); simp (maxSteps := 10000000) (disch := omega) only [hq, n3, n4, n5, n6, hi, go_sem, ↓reduceIte, Nat.reduceEqDiff, Nat.reduceSub, Nat.reduceLeDiff, Nat.reduceAdd, Int.reduceEq, Int.reduceLT, Int.reduceLE]
     by_cases hc : checkM a.m = true
     · refine call_with (okPutB a.m hmv hc (by omega) (.inr rfl) (by omega) rfl) ?_
       rw [show M.map writeM ++ [writeM a.m] = (M ++ [a.m]).map writeM by simp]
       (try simp only [bK1, bK2, bK3, bK4, bK5, bK6, bK7, bK8]); simp (maxSteps := 10000000) (disch := omega) only [go_sem, ↓reduceIte, Nat.reduceEqDiff, Nat.reduceSub, Nat.reduceLeDiff, Nat.reduceAdd, Int.reduceEq, Int.reduceLT, Int.reduceLE]
       refine call_with (okSameM a.m w hmv hwv) ?_
       cases hs : sameM a.m w
       · have hcn : ((cnt w (M ++ [a.m]) : Nat) : Int) = (cnt w M : Int) := by rw [cnt_app, cnt_one, hs]; simp
         (try simp only [bK1, bK2, bK3, bK4, bK5, bK6, bK7, bK8]); simp (maxSteps := 10000000) (disch := omega) only [go_sem, ↓reduceIte, Nat.reduceEqDiff, Nat.reduceSub, Nat.reduceLeDiff, Nat.reduceAdd, Int.reduceEq, Int.reduceLT, Int.reduceLE]
         refine loop_next (x := (k, M)) (k + 1, M ++ [a.m]) _ _ rfl ⟨by show k + 1 ≤ _; omega, by show (M ++ [a.m]).length ≤ k + 1; simp; omega, hgA hc⟩ (by show _ - (k + 1) < _; omega) ?_ ?_
         · (try simp only [bK1, bK2, bK3, bK4, bK5, bK6, bK7, bK8]); simp (maxSteps := 10000000) (disch := omega) only [go_sem, ↓reduceIte, Nat.reduceEqDiff, Nat.reduceSub, Nat.reduceLeDiff, Nat.reduceAdd, Int.reduceEq, Int.reduceLT, Int.reduceLE]
         · (try simp only [bK1, bK2, bK3, bK4, bK5, bK6, bK7, bK8]); simp (maxSteps := 10000000) (disch := omega) only [hcn, go_sem, ↓reduceIte, Nat.reduceEqDiff, Nat.reduceSub, Nat.reduceLeDiff, Nat.reduceAdd, Int.reduceEq, Int.reduceLT, Int.reduceLE]
       · have hcn : ((cnt w (M ++ [a.m]) : Nat) : Int) = (cnt w M : Int) + 1 := by rw [cnt_app, cnt_one, hs]; simp
         (try simp only [bK1, bK2, bK3, bK4, bK5, bK6, bK7, bK8]); simp (maxSteps := 10000000) (disch := omega) only [go_sem, ↓reduceIte, Nat.reduceEqDiff, Nat.reduceSub, Nat.reduceLeDiff, Nat.reduceAdd, Int.reduceEq, Int.reduceLT, Int.reduceLE]
         refine loop_next (x := (k, M)) (k + 1, M ++ [a.m]) _ _ rfl ⟨by show k + 1 ≤ _; omega, by show (M ++ [a.m]).length ≤ k + 1; simp; omega, hgA hc⟩ (by show _ - (k + 1) < _; omega) ?_ ?_
         · (try simp only [bK1, bK2, bK3, bK4, bK5, bK6, bK7, bK8]); simp (maxSteps := 10000000) (disch := omega) only [go_sem, ↓reduceIte, Nat.reduceEqDiff, Nat.reduceSub, Nat.reduceLeDiff, Nat.reduceAdd, Int.reduceEq, Int.reduceLT, Int.reduceLE]
         · (try simp only [bK1, bK2, bK3, bK4, bK5, bK6, bK7, bK8]); simp (maxSteps := 10000000) (disch := omega) only [hcn, go_sem, ↓reduceIte, Nat.reduceEqDiff, Nat.reduceSub, Nat.reduceLeDiff, Nat.reduceAdd, Int.reduceEq, Int.reduceLT, Int.reduceLE]
     · refine call_with (okPutB_bad a.m hmv (by simpa using hc) rfl) ?_
       (try simp only [bK1, bK2, bK3, bK4, bK5, bK6, bK7, bK8]); simp (maxSteps := 10000000) (disch := omega) only [go_sem, ↓reduceIte, Nat.reduceEqDiff, Nat.reduceSub, Nat.reduceLeDiff, Nat.reduceAdd, Int.reduceEq, Int.reduceLT, Int.reduceLE]
       refine loop_next (x := (k, M)) (k + 1, M) _ _ rfl ⟨by show k + 1 ≤ _; omega, by show M.length ≤ k + 1; omega, hk3⟩ (by show _ - (k + 1) < _; omega) ?_ ?_
       · (try simp only [bK1, bK2, bK3, bK4, bK5, bK6, bK7, bK8]); simp (maxSteps := 10000000) (disch := omega) only [go_sem, ↓reduceIte, Nat.reduceEqDiff, Nat.reduceSub, Nat.reduceLeDiff, Nat.reduceAdd, Int.reduceEq, Int.reduceLT, Int.reduceLE]
       · (try simp only [bK1, bK2, bK3, bK4, bK5, bK6, bK7, bK8]); simp (maxSteps := 10000000) (disch := omega) only [go_sem, ↓reduceIte, Nat.reduceEqDiff, Nat.reduceSub, Nat.reduceLeDiff, Nat.reduceAdd, Int.reduceEq, Int.reduceLT, Int.reduceLE]
 obtain rfl : k = l.length := by omega
 have hMl : (M.map writeM).length ≤ 40 := by simp; omega
 (try simp only [bK1, bK2, bK3, bK4, bK5, bK6, bK7, bK8]); simp (maxSteps := 10000000) (disch := omega) only [stCn, List.length_map, go_sem, ↓reduceIte, Nat.reduceEqDiff, Nat.reduceSub, Nat.reduceLeDiff, Nat.reduceAdd, Int.reduceEq, Int.reduceLT, Int.reduceLE]
 refine call_with (okAllB (by decide) rfl) ?_
 (try simp only [bK1, bK2, bK3, bK4, bK5, bK6, bK7, bK8]); simp (maxSteps := 10000000) (disch := omega) only [go_sem, ↓reduceIte, Nat.reduceEqDiff, Nat.reduceSub, Nat.reduceLeDiff, Nat.reduceAdd, Int.reduceEq, Int.reduceLT, Int.reduceLE]
 refine rng_ok mixed fn40 (by simp) fun l0 XI hc => ?_
 rw [enter_mk _ _ _ (by show 2 ≤ 1000000; omega)]
 (try simp only [bK1, bK2, bK3, bK4, bK5, bK6, bK7, bK8]); simp (maxSteps := 10000000) (disch := omega) only [ir40, bagV, go_sem, ↓reduceIte, Nat.reduceEqDiff, Nat.reduceSub, Nat.reduceLeDiff, Nat.reduceAdd, Int.reduceEq, Int.reduceLT, Int.reduceLE]
 refine call_with (okCloneN (.inr rfl) (by simp; omega)) ?_
 (try simp only [bK1, bK2, bK3, bK4, bK5, bK6, bK7, bK8]); simp (maxSteps := 10000000) (disch := omega) only [List.length_map, go_sem, ↓reduceIte, Nat.reduceEqDiff, Nat.reduceSub, Nat.reduceLeDiff, Nat.reduceAdd, Int.reduceEq, Int.reduceLT, Int.reduceLE]
 refine loop_ok mixed (stAl l0 w M) (fun j => j ≤ M.length) (fun j => M.length - j) 0 (by simp) (wk_ren 13 50 (by decide) rfl (weak_mk ?_ ?_)) fun j hj => ?_
 · (try simp only [bK1, bK2, bK3, bK4, bK5, bK6, bK7, bK8]); simp (maxSteps := 10000000) (disch := omega) only [go_sem, ↓reduceIte, Nat.reduceEqDiff, Nat.reduceSub, Nat.reduceLeDiff, Nat.reduceAdd, Int.reduceEq, Int.reduceLT, Int.reduceLE]
 · (try simp only [bK1, bK2, bK3, bK4, bK5, bK6, bK7, bK8]); simp (maxSteps := 10000000) (disch := omega) only [List.drop_zero, go_sem, ↓reduceIte, Nat.reduceEqDiff, Nat.reduceSub, Nat.reduceLeDiff, Nat.reduceAdd, Int.reduceEq, Int.reduceLT, Int.reduceLE]
 by_cases hltj : j < M.length
 · have hmj : M[j]? = some M[j] := List.getElem?_eq_getElem hltj
   have hd : M.drop j = M[j] :: M.drop (j + 1) := List.drop_eq_getElem_cons hltj
   have hm := hk3 _ (List.getElem_mem hltj)
   generalize M[j] = m at *
   have hej : ((M.map writeM).map bE)[j]? = some [.sl false 1 (bytesE (writeM m))] := by rw [List.getElem?_map, List.getElem?_map, hmj]; rfl
   have hcd : cnt w (M.drop j) = cnt w [m] + cnt w (M.drop (j + 1)) := by rw [hd, show m :: M.drop (j + 1) = [m] ++ M.drop (j + 1) from rfl, cnt_app]
   have hcl := cnt_le w (M.drop j)
   have hdl : (M.drop j).length ≤ 40 := by simp; omega
   (try simp only [bK1, bK2, bK3, bK4, bK5, bK6, bK7, bK8]); simp (maxSteps := 10000000) (disch := omega) only [stAl, List.length_map, hej, ld_sl, go_sem, ↓reduceIte, Nat.reduceEqDiff, Nat.reduceSub, Nat.reduceLeDiff, Nat.reduceAdd, Int.reduceEq, Int.reduceLT, Int.reduceLE]
   refine call_with (okReadM m hm.1 hm.2) ?_
   (try simp only [bK1, bK2, bK3, bK4, bK5, bK6, bK7, bK8]); simp (maxSteps := 10000000) (disch := omega) only [segM_cells, mkOr_sgM, go_sem, ↓reduceIte, Nat.reduceEqDiff, Nat.reduceSub, Nat.reduceLeDiff, Nat.reduceAdd, Int.reduceEq, Int.reduceLT, Int.reduceLE]
   refine yld_ok mixed hc ?_ rfl fun XA XB => ?_
   · (try simp only [bK1, bK2, bK3, bK4, bK5, bK6, bK7, bK8]); simp (maxSteps := 10000000) (disch := omega) only [go_sem, ↓reduceIte, Nat.reduceEqDiff, Nat.reduceSub, Nat.reduceLeDiff, Nat.reduceAdd, Int.reduceEq, Int.reduceLT, Int.reduceLE]
   rw [round_mk _ _ _ _ ps_108]
   (try simp only [bK1, bK2, bK3, bK4, bK5, bK6, bK7, bK8]); simp (maxSteps := 10000000) (disch := omega) only [segM_cells, mkOr_sgM, go_sem, ↓reduceIte, Nat.reduceEqDiff, Nat.reduceSub, Nat.reduceLeDiff, Nat.reduceAdd, Int.reduceEq, Int.reduceLT, Int.reduceLE]
   refine call_with (okSameMA (canM m) w (mv_can hm.1) hwv) ?_
   rw [sameM_can]
   have hc1 := cnt_one w m
   cases his : sameM m w
   · rw [if_neg (by rw [his]; decide)] at hc1
     have hcn : ((cnt w (M.drop (j + 1)) : Nat) : Int) = (cnt w (M.drop j) : Int) := by omega
     (try simp only [bK1, bK2, bK3, bK4, bK5, bK6, bK7, bK8]); simp (maxSteps := 10000000) (disch := omega) only [go_sem, ↓reduceIte, Nat.reduceEqDiff, Nat.reduceSub, Nat.reduceLeDiff, Nat.reduceAdd, Int.reduceEq, Int.reduceLT, Int.reduceLE]
     refine loop_next (j + 1) _ _ rfl (by omega) (by omega) ?_ ?_
     · (try simp only [bK1, bK2, bK3, bK4, bK5, bK6, bK7, bK8]); simp (maxSteps := 10000000) (disch := omega) only [go_sem, ↓reduceIte, Nat.reduceEqDiff, Nat.reduceSub, Nat.reduceLeDiff, Nat.reduceAdd, Int.reduceEq, Int.reduceLT, Int.reduceLE]
     · (try simp only [bK1, bK2, bK3, bK4, bK5, bK6, bK7, bK8]); simp (maxSteps := 10000000) (disch := omega) only [hcn, go_sem, ↓reduceIte, Nat.reduceEqDiff, Nat.reduceSub, Nat.reduceLeDiff, Nat.reduceAdd, Int.reduceEq, Int.reduceLT, Int.reduceLE]
   · rw [if_pos his] at hc1
     have hcn : ((cnt w (M.drop (j + 1)) : Nat) : Int) = (cnt w (M.drop j) : Int) - 1 := by omega
     (try simp only [bK1, bK2, bK3, bK4, bK5, bK6, bK7, bK8]); simp (maxSteps := 10000000) (disch := omega) only [go_sem, ↓reduceIte, Nat.reduceEqDiff, Nat.reduceSub, Nat.reduceLeDiff, Nat.reduceAdd, Int.reduceEq, Int.reduceLT, Int.reduceLE]
     refine loop_next (j + 1) _ _ rfl (by omega) (by omega) ?_ ?_
     · (try simp only [bK1, bK2, bK3, bK4, bK5, bK6, bK7, bK8]); simp (maxSteps := 10000000) (disch := omega) only [go_sem, ↓reduceIte, Nat.reduceEqDiff, Nat.reduceSub, Nat.reduceLeDiff, Nat.reduceAdd, Int.reduceEq, Int.reduceLT, Int.reduceLE]
     · (try simp only [bK1, bK2, bK3, bK4, bK5, bK6, bK7, bK8]); simp (maxSteps := 10000000) (disch := omega) only [hcn, go_sem, ↓reduceIte, Nat.reduceEqDiff, Nat.reduceSub, Nat.reduceLeDiff, Nat.reduceAdd, Int.reduceEq, Int.reduceLT, Int.reduceLE]
 obtain rfl : j = M.length := by omega
 have hz : ((cnt w (M.drop M.length) : Nat) : Int) = 0 := by simp [cnt]
 (try simp only [bK1, bK2, bK3, bK4, bK5, bK6, bK7, bK8]); simp (maxSteps := 10000000) (disch := omega) only [stAl, hz, go_sem, ↓reduceIte, Nat.reduceEqDiff, Nat.reduceSub, Nat.reduceLeDiff, Nat.reduceAdd, Int.reduceEq, Int.reduceLT, Int.reduceLE]
theorem holdsBagCounts {c0 c1 : List PV} (g0 : GC (.sl shAct) c0) (g1 : GC shMsg c1) {h d} :
 FunOk Try.prog 6 [toSV (.sl shAct) c0, toSV shMsg c1] h d (.pv (.b true)) [] := by
 obtain ⟨es, rfl, h1, g0⟩ := GC_sl g0
 obtain ⟨l, rfl, hA⟩ := els_of (f := actE) GC_act g0
 obtain ⟨w, rfl, hw⟩ := GC_msg g1
 refine (lawCounts hA hw).imp ⟨Imp.refl _, imp_agg (by rfl) (msgE_len w), trivial⟩ ?_
 intro n hn
 simp [tops, tn] at hn
end Go.Proofs.Ytfkmlmckihmihaa.Fw
