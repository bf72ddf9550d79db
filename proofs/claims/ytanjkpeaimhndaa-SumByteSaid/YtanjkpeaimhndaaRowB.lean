/- How arguments that lie in a world read in the small language. -/
import Derived.Test.YtanjkpeaimhndaaFwC
import Derived.OpenShut
import Derived.ShutString
import Derived.ChangeOld
import Derived.SizedLaws
set_option linter.unusedVariables false
set_option linter.unusedSimpArgs false
set_option linter.unusedSectionVars false
set_option maxRecDepth 100000
namespace Go.Proofs.Ytanjkpeaimhndaa.Fw
open Go.RowKit
/-- the view of a world in which nothing is hidden -/
noncomputable abbrev allOf (w : World) : View := viewOf w fun _ => False
theorem cell_view {w : World} {a : Addr} {v : Value} (h : w.cell? a = some v) : a.spot = none ∧ ∃ arr, allOf w a.block = some arr ∧ arr[a.off]? = some v := by
  unfold World.cell? at h
  split at h
  · rename_i c ty fr hb
    split at h
    · cases h
    · rename_i hs
      refine ⟨by cases hx : a.spot <;> simp_all, c, ?_, h⟩
      unfold allOf viewOf cellsAt
      simp [hb]
  · cases h
/-- a slice of words that lies in the world -/
theorem row_ints {w : World} {k : IntKind} {a : Option Addr} {len cap : Nat} {zs : List Int} (hl : len ≤ cap) (hz : zs.length = cap) (hc : ∀ x, a = some x → ∀ i, i < zs.length → w.cell? (x.add i) = some (.int k (zs.getD i 0))) (ha : a = none → cap = 0) :
    PConc (allOf w) (.sl false 1 ((zs.take len).map fun n => [.i k n])) (.slice a len cap) := by
  have hlen : ((zs.take len).map fun n => [PV.i k n]).length = len := by simp; omega
  cases a with
  | none =>
    have := ha rfl
    have h0 : len = 0 := by omega
    subst h0
    have e := PConc.sl (V := allOf w) false 1 ((zs.take 0).map fun n => [PV.i k n]) none cap (fun _ _ => undef) 0 0 #[] (by simp) (by simp) (by simp) (by simp) (by simp) (by simp)
    simpa using e
  | some x =>
    by_cases h0 : len = 0
    · subst h0
      have e := PConc.sl (V := allOf w) false 1 ((zs.take 0).map fun n => [PV.i k n]) (some x) cap (fun _ _ => undef) 0 0 #[] (by simp) (by simp) (by simp) (by simp) (by simp) (by simp)
      simpa using e
    · have hx := hc x rfl
      have h1 := hx 0 (by omega)
      simp only [Addr.add, if_true] at h1
      obtain ⟨hs, arr, hv, _⟩ := cell_view h1
      have hget : ∀ i, i < zs.length → arr[x.off + i]? = some (.int k (zs.getD i 0)) := fun i hi => by
        have h2 := hx i hi
        by_cases hi0 : i = 0
        · subst hi0
          simp only [Addr.add, if_true] at h2
          obtain ⟨_, arr', hv', h3⟩ := cell_view h2
          rw [hv] at hv'; cases hv'; exact h3
        · simp only [Addr.add, hi0, if_false] at h2
          obtain ⟨_, arr', hv', h3⟩ := cell_view h2
          simp only at hv' h3
          rw [hv] at hv'; cases hv'; exact h3
      have e := PConc.sl (V := allOf w) false 1 ((zs.take len).map fun n => [PV.i k n]) (some x) cap (fun i _ => .int k (zs.getD i 0)) x.block x.off arr (by rw [hlen]; exact hl) (by simp) (fun c hc' => by
          obtain ⟨n, _, rfl⟩ := List.mem_map.1 hc'; rfl) (fun _ => by
          obtain ⟨b, o, sp⟩ := x
          simp only at hs; subst hs
          exact ⟨rfl, hv⟩) (fun i j hi hj => by
          have : j = 0 := by omega
          subst this
          rw [hlen] at hi
          simp only [Nat.mul_one, Nat.add_zero]
          exact hget i (by omega)) (fun i j c y hi hj => by
          simp only [List.getElem?_map] at hi
          obtain ⟨n, hn, rfl⟩ := Option.map_eq_some_iff.1 hi
          have hil : i < len := by
            have := (List.getElem?_eq_some_iff.1 hn).1; simp at this; omega
          rw [List.getElem?_take, if_pos hil] at hn
          cases j with
          | zero =>
            simp only [List.getElem?_cons_zero, Option.some.injEq] at hj
            subst hj
            have : zs.getD i 0 = n := by simp [hn]
            rw [this]; exact .i k n
          | succ j => simp at hj)
      rw [hlen] at e
      exact e
/-- a row of words that lies in the world, as the reading of an argument tells of it -/
def IsRow (k : IntKind) (w : World) (a : Option Addr) (len cap : Nat) (zs : List Int) : Prop :=
  (a = none ∧ len = 0 ∧ cap = 0 ∧ zs = []) ∨
  ∃ x, a = some x ∧ len ≤ cap ∧ cap ≤ maxLen ∧ zs.length = cap ∧ (∀ i, i < zs.length → w.cell? (x.add i) = some (.int k (zs.getD i 0))) ∧ ∀ n ∈ zs, (Lit.int k n).wf = true
theorem u8_range {n : Int} (h : (Lit.int .u8 n).wf = true) : 0 ≤ n ∧ n < 256 := by
  simp [Lit.wf, IntKind.min, IntKind.max, IntKind.signed, IntKind.bits] at h
  omega
theorem ints_bytesE : ∀ {zs : List Int}, (∀ n ∈ zs, 0 ≤ n ∧ n < 256) → ∃ l : List UInt8, (zs.map fun n => [PV.i .u8 n]) = bytesE l ∧ l.length = zs.length
  | [], _ => ⟨[], rfl, rfl⟩
  | n :: zs, h => by
    obtain ⟨l, h1, h2⟩ := ints_bytesE (zs := zs) fun m hm => h m (by simp [hm])
    have hn := h n (by simp)
    refine ⟨UInt8.ofNat n.toNat :: l, ?_, by simp [h2]⟩
    simp only [List.map_cons, bytesE] at h1 ⊢
    rw [h1]
    congr 3
    rw [UInt8.toNat_ofNat']
    have : n.toNat % 2 ^ 8 = n.toNat := Nat.mod_eq_of_lt (by omega)
    rw [this]; omega
theorem row_bytes {w : World} {a : Option Addr} {len cap : Nat} {zs : List Int} (h : IsRow .u8 w a len cap zs) : ∃ l : List UInt8, l.length = len ∧ PConc (allOf w) (.sl false 1 (bytesE l)) (.slice a len cap) := by
  rcases h with ⟨rfl, rfl, rfl, rfl⟩ | ⟨x, rfl, h1, h2, h3, h4, h5⟩
  · exact ⟨[], rfl, by simpa [bytesE] using row_ints (w := w) (k := .u8) (a := none) (len := 0) (cap := 0) (zs := []) (by simp) rfl (by simp) (by simp)⟩
  · obtain ⟨l, e1, e2⟩ := ints_bytesE (zs := zs.take len) fun n hn => u8_range (h5 n (List.mem_of_mem_take hn))
    refine ⟨l, by rw [e2]; simp; omega, ?_⟩
    rw [← e1]
    exact row_ints h1 h3 (fun y hy => by cases hy; exact h4) (by simp)
/-- an array of two words, as the reading of an argument tells of it -/
theorem pair_of {H : Type} {enc : TypeId × Value → H} {P : Program} {w : World} {base : Nat} {spare : Nat → Bool} {held : Bool} {t e : TypeId} {k : IntKind} {xs : Array Value} {d : DataW H} {ps : List MemPlace}
    (ht : P.underlying t = some (.array 2 e)) (he : P.underlying e = some (.int k)) (h1 : P.cellsOf e = 1) (h2 : P.cellsOf t = 2) (h : DataW.Trod enc P w base spare held t (.agg xs) d ps) :
    ∃ m n : Int, xs = #[.int k m, .int k n] ∧ (Lit.int k m).wf = true ∧ (Lit.int k n).wf = true := by
  obtain ⟨fuel, hf⟩ := h
  obtain ⟨ys, m, rfl, _, hl, hy, hg⟩ := DataW.trod_array ht hf
  rw [h2] at hl
  rw [h1] at hg
  obtain ⟨l⟩ := xs
  simp only [Value.cells] at hl hg
  match l, hl with
  | [a, b], _ =>
    have g0 := hg 0 (by omega)
    have g1 := hg 1 (by omega)
    simp at g0 g1
    have y0 : ∃ y, ys[0]? = some y := ⟨ys[0]'(by omega), by simp⟩
    have y1 : ∃ y, ys[1]? = some y := ⟨ys[1]'(by omega), by simp⟩
    obtain ⟨y0, e0⟩ := y0
    obtain ⟨y1, e1⟩ := y1
    rw [e0] at g0
    rw [e1] at g1
    obtain ⟨p, q0, _, w0⟩ := DataW.trod_int he g0
    obtain ⟨q, q1, _, w1⟩ := DataW.trod_int he g1
    simp at q0 q1
    subst q0 q1
    exact ⟨p, q, rfl, w0, w1⟩
end Go.Proofs.Ytanjkpeaimhndaa.Fw
