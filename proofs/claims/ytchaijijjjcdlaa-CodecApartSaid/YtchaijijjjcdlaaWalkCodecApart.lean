/- What the functions that the law CodecApart reaches compute. -/
import Derived.Test.YtchaijijjjcdlaaIr
import Derived.OpenShut
import Derived.ShutString
import Derived.ChangeOld
import Derived.SizedLaws
import Derived.ChangeOld
import Derived.OpenShut
import Derived.ShutString
import Derived.SizedLaws
set_option linter.unusedVariables false
set_option linter.unusedSimpArgs false
set_option linter.unusedSectionVars false
set_option maxRecDepth 100000
namespace Go.Proofs.Ytchaijijjjcdlaa.Fw
/-! Numbers as bytes: plain facts. -/
def numB (n : Nat) : List UInt8 := if h : n = 0 then [] else numB (n / 256) ++ [UInt8.ofNat (n % 256)]
decreasing_by omega
theorem numB_0 : numB 0 = [] := by unfold numB; simp
theorem numB_pos {n : Nat} (h : n ≠ 0) : numB n = numB (n / 256) ++ [UInt8.ofNat (n % 256)] := by conv => lhs; unfold numB; rw [dif_neg h]
theorem numB_len_pos {n : Nat} : 0 < (numB n).length ↔ n ≠ 0 := by
  constructor
  · intro h e; subst e; rw [numB_0] at h; simp at h
  · intro h; rw [numB_pos h]; simp
theorem numB_len : ∀ (k n : Nat), n < 256 ^ k → (numB n).length ≤ k
  | 0, n, h => by
    have : n = 0 := by simpa using h
    subst this; rw [numB_0]; simp
  | k + 1, n, h => by
    by_cases hn : n = 0
    · subst hn; rw [numB_0]; simp
    · rw [numB_pos hn, List.length_append]
      have := numB_len k (n / 256) (by
        rw [Nat.pow_succ] at h
        exact Nat.div_lt_of_lt_mul (by rw [Nat.mul_comm]; exact h))
      simp; exact this
def valB (l : List UInt8) : Nat := l.foldl (fun n c => n * 256 + c.toNat) 0
theorem valB_snoc (l : List UInt8) (c : UInt8) : valB (l ++ [c]) = valB l * 256 + c.toNat := by simp [valB]
theorem valB_numB (n : Nat) : valB (numB n) = n := by
  induction n using Nat.strongRecOn with
  | _ n ih =>
    by_cases hn : n = 0
    · subst hn; rw [numB_0]; rfl
    · rw [numB_pos hn, valB_snoc, ih _ (by omega), UInt8.toNat_ofNat']
      have : n % 256 % 2 ^ 8 = n % 256 := Nat.mod_eq_of_lt (by omega)
      rw [this]; omega
theorem numB_inj {a b : Nat} (h : numB a = numB b) : a = b := by
  have := congrArg valB h; rwa [valB_numB, valB_numB] at this
theorem snoc_ind {p : List UInt8 → Prop} (h0 : p []) (h1 : ∀ l c, p l → p (l ++ [c])) (l : List UInt8) : p l := by
  have key : ∀ l : List UInt8, p l.reverse := fun l => by
    induction l with
    | nil => exact h0
    | cons c l ih => rw [List.reverse_cons]; exact h1 _ _ ih
  have := key l.reverse
  rwa [List.reverse_reverse] at this
theorem valB_lt (l : List UInt8) : valB l < 256 ^ l.length := by
  refine snoc_ind (p := fun l => valB l < 256 ^ l.length) (by simp [valB]) (fun l c ih => ?_) l
  rw [valB_snoc, List.length_append, List.length_singleton, Nat.pow_succ]
  have := c.toNat_lt
  omega
theorem head_ne (l : List UInt8) (c : UInt8) (h : l ≠ []) : (l ++ [c]).head? = l.head? := by cases l <;> simp_all
/-- bytes are a number's just if they don't begin with a zero -/
theorem numB_valB (l : List UInt8) : numB (valB l) = l ↔ l.head? ≠ some 0 := by
  refine snoc_ind (p := fun l => numB (valB l) = l ↔ l.head? ≠ some 0) (by simp [valB, numB_0]) (fun l c ih => ?_) l
  rw [valB_snoc]
  have hc := c.toNat_lt
  have hcc : UInt8.ofNat c.toNat = c := UInt8.ofNat_toNat
  by_cases hl : l = []
  · subst hl
    have hv : valB [] = 0 := rfl
    rw [hv, Nat.zero_mul, Nat.zero_add, List.nil_append]
    simp only [List.head?_cons, ne_eq, Option.some.injEq]
    by_cases h0 : c.toNat = 0
    · have : c = 0 := UInt8.toNat_inj.1 (by simpa using h0)
      subst this
      simp [numB_0]
    · have hne : c ≠ 0 := fun e => h0 (by rw [e]; rfl)
      rw [numB_pos h0, show c.toNat / 256 = 0 from by omega, numB_0, show c.toNat % 256 = c.toNat from by omega, hcc]
      simp [hne]
  · rw [head_ne l c hl]
    have hlen : valB l ≠ 0 → numB (valB l * 256 + c.toNat) = numB (valB l) ++ [c] := fun hv => by
      rw [numB_pos (by omega), show (valB l * 256 + c.toNat) / 256 = valB l from by omega, show (valB l * 256 + c.toNat) % 256 = c.toNat from by omega, hcc]
    constructor
    · intro e
      by_cases hv : valB l = 0
      · intro hh
        rw [hv, Nat.zero_mul, Nat.zero_add] at e
        have h1 := congrArg List.length e
        have h2 := numB_len 1 c.toNat (by omega)
        have h3 : 0 < l.length := List.length_pos_iff.2 hl
        simp at h1; omega
      · rw [hlen hv] at e
        exact ih.1 (List.append_cancel_right e)
    · intro hh
      have e := ih.2 hh
      have hv : valB l ≠ 0 := fun hv => by rw [hv, numB_0] at e; exact hl e.symm
      rw [hlen hv, e]
theorem valB_lt8 {l : List UInt8} (h : l.length ≤ 8) : valB l < 18446744073709551616 := by
  have h1 := valB_lt l
  have h2 : 256 ^ l.length ≤ 256 ^ 8 := Nat.pow_le_pow_right (by omega) h
  omega
/-- the number of bytes, and the error -/
def asNum (l : List UInt8) : Nat × Int := if 8 < l.length then (0, 4) else if l.head? = some 0 then (0, 7) else (valB l, 0)
theorem asNum_lt (l : List UInt8) : (asNum l).1 < 18446744073709551616 := by
  unfold asNum
  split
  · simp
  · split
    · simp
    · exact valB_lt8 (by omega)
end Go.Proofs.Ytchaijijjjcdlaa.Fw
namespace Go.Proofs.Ytchaijijjjcdlaa.Fw
/-! Fields of bytes: plain lists. -/
def fieldB (f : List UInt8) : List UInt8 := if f.length < 255 then UInt8.ofNat f.length :: f else 255 :: UInt8.ofNat (f.length / 256) :: UInt8.ofNat f.length :: f
def packB : List (List UInt8) → List UInt8
  | [] => []
  | f :: l => fieldB f ++ packB l
theorem packB_app : ∀ (a b : List (List UInt8)), packB (a ++ b) = packB a ++ packB b
  | [], b => rfl
  | f :: a, b => by simp only [List.cons_append, packB, packB_app a b, List.append_assoc]
theorem fieldB_short {f : List UInt8} (h : f.length < 255) : fieldB f = UInt8.ofNat f.length :: f := if_pos h
theorem fieldB_long {f : List UInt8} (h : ¬ f.length < 255) : fieldB f = 255 :: UInt8.ofNat (f.length / 256) :: UInt8.ofNat f.length :: f := if_neg h
theorem fieldB_len (f : List UInt8) : (fieldB f).length = f.length + if f.length < 255 then 1 else 3 := by
  unfold fieldB; split <;> simp
theorem fieldB_ne (f : List UInt8) : fieldB f ≠ [] := by unfold fieldB; split <;> simp
/-- the length that a field's bytes begin with, how many bytes it takes, and what is wrong -/
def headL (l : List UInt8) : Nat × Nat × Int :=
  if (l.getD 0 0).toNat < 255 then ((l.getD 0 0).toNat, 1, 0)
  else if l.length < 3 then (0, 0, 8)
  else if (l.getD 1 0).toNat * 256 + (l.getD 2 0).toNat < 255 then (0, 0, 7)
  else ((l.getD 1 0).toNat * 256 + (l.getD 2 0).toNat, 3, 0)
/-- what is wrong with the first field; 0: nothing -/
def errL (l : List UInt8) : Int := if (headL l).2.2 = 0 then if l.length < (headL l).2.1 + (headL l).1 then 8 else 0 else (headL l).2.2
def fldL (l : List UInt8) : List UInt8 := (l.drop (headL l).2.1).take (headL l).1
def rstL (l : List UInt8) : List UInt8 := l.drop ((headL l).2.1 + (headL l).1)
theorem headL_from {l : List UInt8} (h : (headL l).2.2 = 0) : 1 ≤ (headL l).2.1 := by
  unfold headL at *
  split
  · simp
  · rename_i h1
    rw [if_neg h1] at h
    split
    · rename_i h2; rw [if_pos h2] at h; simp at h
    · rename_i h2
      rw [if_neg h2] at h
      split
      · rename_i h3; rw [if_pos h3] at h; simp at h
      · simp
theorem errL_head {l : List UInt8} (h : errL l = 0) : (headL l).2.2 = 0 ∧ (headL l).2.1 + (headL l).1 ≤ l.length := by
  unfold errL at h
  split at h
  · rename_i h1
    split at h
    · cases h
    · exact ⟨h1, by omega⟩
  · rename_i h1; exact absurd h h1
theorem rstL_lt {l : List UInt8} (hl : l ≠ []) (h : errL l = 0) : (rstL l).length < l.length := by
  obtain ⟨h1, h2⟩ := errL_head h
  have := headL_from h1
  have := List.length_pos_iff.2 hl
  unfold rstL
  rw [List.length_drop]; omega
/-- the fields of bytes, at most so many; none: something is wrong -/
def unpackG (l : List UInt8) (out : List (List UInt8)) (most : Int) : List (List UInt8) × Int :=
  if hl : l = [] then (out, 0)
  else if h : errL l = 0 then
    if most ≤ out.length then ([], 4) else unpackG (rstL l) (out ++ [fldL l]) most
  else ([], errL l)
termination_by l.length
decreasing_by exact rstL_lt hl h
theorem unpackG_nil (out most) : unpackG [] out most = (out, 0) := by rw [unpackG]; simp
theorem unpackG_err {l out most} (hl : l ≠ []) (h : errL l ≠ 0) : unpackG l out most = ([], errL l) := by rw [unpackG, dif_neg hl, dif_neg h]
theorem unpackG_full {l out} {most : Int} (hl : l ≠ []) (h : errL l = 0) (hm : most ≤ out.length) : unpackG l out most = ([], 4) := by rw [unpackG, dif_neg hl, dif_pos h, if_pos hm]
theorem unpackG_go {l out} {most : Int} (hl : l ≠ []) (h : errL l = 0) (hm : ¬ most ≤ out.length) : unpackG l out most = unpackG (rstL l) (out ++ [fldL l]) most := by rw [unpackG, dif_neg hl, dif_pos h, if_neg hm]
theorem toNat_ofNat_lt {n : Nat} (h : n < 256) : (UInt8.ofNat n).toNat = n := by rw [UInt8.toNat_ofNat']; exact Nat.mod_eq_of_lt h
/-- a field's bytes, with others behind: the head tells of it -/
theorem head_field (f r : List UInt8) (hf : f.length ≤ 65535) : headL (fieldB f ++ r) = (f.length, (if f.length < 255 then 1 else 3), 0) := by
  unfold headL fieldB
  by_cases h : f.length < 255
  · simp only [if_pos h, List.cons_append, List.getD_cons_zero]
    rw [toNat_ofNat_lt (by omega), if_pos h]
  · simp only [if_neg h, List.cons_append, List.getD_cons_zero, List.getD_cons_succ, List.length_cons]
    rw [if_neg (by decide), if_neg (by omega), toNat_ofNat_lt (by omega), UInt8.toNat_ofNat']
    have : f.length / 256 * 256 + f.length % 2 ^ 8 = f.length := by omega
    rw [this, if_neg h]
theorem field_drop (f r : List UInt8) : (fieldB f ++ r).drop (if f.length < 255 then 1 else 3) = f ++ r := by
  unfold fieldB
  by_cases h : f.length < 255
  · simp [if_pos h]
  · simp [if_neg h]
theorem err_field (f r : List UInt8) (hf : f.length ≤ 65535) : errL (fieldB f ++ r) = 0 := by
  unfold errL
  rw [head_field f r hf]
  simp only [if_true]
  rw [if_neg]
  rw [List.length_append, fieldB_len]
  omega
theorem fld_field (f r : List UInt8) (hf : f.length ≤ 65535) : fldL (fieldB f ++ r) = f := by
  unfold fldL
  rw [head_field f r hf]
  simp only
  rw [field_drop, List.take_left]
theorem rst_field (f r : List UInt8) (hf : f.length ≤ 65535) : rstL (fieldB f ++ r) = r := by
  unfold rstL
  rw [head_field f r hf]
  simp only
  rw [← List.drop_drop, field_drop, List.drop_left]
theorem unpack_pack (r : List UInt8) : ∀ (l out : List (List UInt8)) (most : Int), (∀ f ∈ l, f.length ≤ 65535) → (out.length + l.length : Int) ≤ most → unpackG (packB l ++ r) out most = unpackG r (out ++ l) most
  | [], out, most, _, _ => by simp [packB]
  | f :: l, out, most, hl, hm => by
    simp only [packB, List.append_assoc]
    have hf := hl f List.mem_cons_self
    simp only [List.length_cons] at hm
    rw [unpackG_go (by simp [fieldB_ne]) (err_field f _ hf) (by omega), fld_field f _ hf, rst_field f _ hf]
    rw [unpack_pack r l (out ++ [f]) most (fun g hg => hl g (List.mem_cons_of_mem _ hg)) (by simp; omega)]
    simp
theorem unpack_all (l : List (List UInt8)) (most : Int) (hl : ∀ f ∈ l, f.length ≤ 65535) (hm : (l.length : Int) ≤ most) : unpackG (packB l) [] most = (l, 0) := by
  have := unpack_pack [] l [] most hl (by simpa using hm)
  rw [List.append_nil] at this
  rw [this, unpackG_nil]; simp
/-- two lists of fields have the same bytes just if they are the same -/
theorem packB_inj {a b : List (List UInt8)} (ha : ∀ f ∈ a, f.length ≤ 65535) (hb : ∀ f ∈ b, f.length ≤ 65535) : packB a = packB b ↔ a = b := by
  constructor
  · intro h
    have h1 := unpack_all a (max a.length b.length : Nat) ha (by omega)
    have h2 := unpack_all b (max a.length b.length : Nat) hb (by omega)
    rw [h] at h1
    rw [h1] at h2
    exact congrArg Prod.fst h2
  · rintro rfl; rfl
/-- a field's bytes that end too early -/
theorem err_cut (f : List UInt8) (hf : f.length ≤ 65535) (k : Nat) (h0 : 0 < k) (hk : k < (fieldB f).length) : errL ((fieldB f).take k) = 8 := by
  rw [fieldB_len] at hk
  have hl : ((fieldB f).take k).length = k := by rw [List.length_take, fieldB_len]; omega
  by_cases h : f.length < 255
  · rw [if_pos h] at hk
    have hh : headL ((fieldB f).take k) = (f.length, 1, 0) := by
      unfold headL
      have e : ((fieldB f).take k).getD 0 0 = UInt8.ofNat f.length := by
        rw [fieldB_short h, List.getD_eq_getElem?_getD, List.getElem?_take_of_lt h0]; rfl
      rw [e, toNat_ofNat_lt (by omega), if_pos h]
    unfold errL
    rw [hh]
    simp only [if_true]
    rw [hl, if_pos (by omega)]
  · rw [if_neg h] at hk
    have e0 : ((fieldB f).take k).getD 0 0 = 255 := by
      rw [fieldB_long h, List.getD_eq_getElem?_getD, List.getElem?_take_of_lt h0]; rfl
    have e0' : ¬ (((fieldB f).take k).getD 0 0).toNat < 255 := by rw [e0]; decide
    by_cases h3 : k < 3
    · have hh : headL ((fieldB f).take k) = (0, 0, 8) := by
        unfold headL
        rw [if_neg e0', hl, if_pos h3]
      unfold errL
      rw [hh]; rfl
    · have e1 : ((fieldB f).take k).getD 1 0 = UInt8.ofNat (f.length / 256) := by
        rw [fieldB_long h, List.getD_eq_getElem?_getD, List.getElem?_take_of_lt (by omega)]; rfl
      have e2 : ((fieldB f).take k).getD 2 0 = UInt8.ofNat f.length := by
        rw [fieldB_long h, List.getD_eq_getElem?_getD, List.getElem?_take_of_lt (by omega)]; rfl
      have hh : headL ((fieldB f).take k) = (f.length, 3, 0) := by
        unfold headL
        rw [if_neg e0', hl, if_neg h3, e1, e2, toNat_ofNat_lt (by omega), UInt8.toNat_ofNat']
        have : f.length / 256 * 256 + f.length % 2 ^ 8 = f.length := by omega
        rw [this, if_neg h]
      unfold errL
      rw [hh]
      simp only [if_true]
      rw [hl, if_pos (by omega)]
theorem unpack_cut : ∀ (l out : List (List UInt8)) (most : Int) (k : Nat), (∀ f ∈ l, f.length ≤ 65535) → (out.length + l.length : Int) ≤ most →
    (∃ j, j ≤ l.length ∧ unpackG ((packB l).take k) out most = (out ++ l.take j, 0)) ∨ unpackG ((packB l).take k) out most = ([], 8)
  | [], out, most, k, _, _ => .inl ⟨0, Nat.le_refl _, by simp [packB, unpackG_nil]⟩
  | f :: l, out, most, k, hl, hm => by
    have hf := hl f List.mem_cons_self
    simp only [List.length_cons] at hm
    by_cases h0 : k = 0
    · subst h0
      exact .inl ⟨0, Nat.zero_le _, by simp [unpackG_nil]⟩
    · simp only [packB]
      by_cases hk : k < (fieldB f).length
      · right
        rw [List.take_append_of_le_length (by omega)]
        have he := err_cut f hf k (by omega) hk
        rw [unpackG_err (by
          intro e
          have := congrArg List.length e
          rw [List.length_take] at this
          simp only [List.length_nil] at this; omega) (by rw [he]; decide), he]
      · have e : (fieldB f ++ packB l).take k = fieldB f ++ (packB l).take (k - (fieldB f).length) := by
          rw [List.take_append, List.take_of_length_le (by omega)]
        rw [e, unpackG_go (by simp [fieldB_ne]) (err_field f _ hf) (by omega), fld_field f _ hf, rst_field f _ hf]
        rcases unpack_cut l (out ++ [f]) most (k - (fieldB f).length) (fun g hg => hl g (List.mem_cons_of_mem _ hg)) (by simp; omega) with ⟨j, hj, e⟩ | e
        · exact .inl ⟨j + 1, by simp only [List.length_cons]; omega, by rw [e]; simp⟩
        · exact .inr e
end Go.Proofs.Ytchaijijjjcdlaa.Fw
namespace Go.Proofs.Ytchaijijjjcdlaa.Fw
/-! Vectors as bytes against a base: plain facts. -/
def amountB (n : Nat) : List UInt8 := UInt8.ofNat (numB n).length :: numB n
def maskTo (p : Nat → Bool) : Nat → Nat
  | 0 => 0
  | k + 1 => if p k = true then maskTo p k + 2 ^ k else maskTo p k
theorem maskTo_lt (p : Nat → Bool) : ∀ k, maskTo p k < 2 ^ k
  | 0 => by simp [maskTo]
  | k + 1 => by
    have := maskTo_lt p k
    simp only [maskTo]
    rw [Nat.pow_succ]
    split <;> omega
theorem maskTo_bit (p : Nat → Bool) (i : Nat) : ∀ k, maskTo p k / 2 ^ i % 2 = if i < k ∧ p i = true then 1 else 0
  | 0 => by simp [maskTo]
  | k + 1 => by
    have ih := maskTo_bit p i k
    have hlt := maskTo_lt p k
    simp only [maskTo]
    by_cases hk : p k = true
    · rw [if_pos hk]
      by_cases h1 : i < k
      · have e : 2 ^ k = 2 * (2 ^ (k - 1 - i)) * 2 ^ i := by
          rw [← Nat.pow_succ', ← Nat.pow_add]; congr 1; omega
        rw [e, Nat.add_mul_div_right _ _ (Nat.two_pow_pos i)]
        rw [Nat.add_mul_mod_self_left, ih]
        simp [h1, show i < k + 1 from by omega]
      · by_cases h2 : i = k
        · subst h2
          rw [Nat.add_div_right _ (Nat.two_pow_pos i), Nat.div_eq_of_lt hlt]
          simp [hk]
        · have h3 : maskTo p k + 2 ^ k < 2 ^ i := by
            have : 2 ^ (k + 1) ≤ 2 ^ i := Nat.pow_le_pow_right (by omega) (by omega)
            rw [Nat.pow_succ] at this; omega
          rw [Nat.div_eq_of_lt h3, if_neg (by omega)]
    · rw [if_neg hk, ih]
      by_cases h2 : i = k
      · subst h2; simp [hk]
      · have : (i < k) ↔ (i < k + 1) := by omega
        simp only [this]
theorem and_bit (m s i : Nat) : (m &&& s).testBit i = (decide (m / 2 ^ i % 2 = 1) && decide (s / 2 ^ i % 2 = 1)) := by
  rw [Nat.testBit_and, Nat.testBit_eq_decide_div_mod_eq, Nat.testBit_eq_decide_div_mod_eq]
theorem and_zero {m s : Nat} (hm : m < 256) : m &&& s = 0 ↔ ∀ i, i < 8 → ¬ (m / 2 ^ i % 2 = 1 ∧ s / 2 ^ i % 2 = 1) := by
  constructor
  · intro h i _ ⟨h1, h2⟩
    have := and_bit m s i
    rw [h, Nat.zero_testBit, decide_eq_true h1, decide_eq_true h2] at this
    cases this
  · intro h
    apply Nat.eq_of_testBit_eq
    intro i
    rw [and_bit, Nat.zero_testBit]
    by_cases hi : i < 8
    · have := h i hi
      by_cases h1 : m / 2 ^ i % 2 = 1
      · have h2 : ¬ s / 2 ^ i % 2 = 1 := fun h2 => this ⟨h1, h2⟩
        rw [decide_eq_false h2, Bool.and_false]
      · rw [decide_eq_false h1, Bool.false_and]
    · have h3 : m < 2 ^ i := Nat.lt_of_lt_of_le hm (by
        have : 2 ^ 8 ≤ 2 ^ i := Nat.pow_le_pow_right (by omega) (by omega)
        exact this)
      have h1 : ¬ m / 2 ^ i % 2 = 1 := by rw [Nat.div_eq_of_lt h3]; simp
      rw [decide_eq_false h1, Bool.false_and]
/-- what tells of one place -/
def dA (x y : Nat) : List UInt8 := if y < x then amountB (x - y) else if x < y then amountB (y - x) else []
def byTo (v base : Nat → Nat) : Nat → List UInt8
  | 0 => []
  | k + 1 => byTo v base k ++ dA (v k) (base k)
def byFrom (v base : Nat → Nat) : Nat → Nat → List UInt8
  | i, 0 => []
  | i, n + 1 => dA (v i) (base i) ++ byFrom v base (i + 1) n
theorem byFrom_snoc (v base : Nat → Nat) : ∀ n i, byFrom v base i (n + 1) = byFrom v base i n ++ dA (v (i + n)) (base (i + n))
  | 0, i => by simp [byFrom]
  | n + 1, i => by
    have := byFrom_snoc v base n (i + 1)
    rw [byFrom, this, byFrom, List.append_assoc, show i + 1 + n = i + (n + 1) from by omega]
theorem byTo_from (v base : Nat → Nat) : ∀ k, byTo v base k = byFrom v base 0 k
  | 0 => rfl
  | k + 1 => by rw [byTo, byTo_from v base k, byFrom_snoc, Nat.zero_add]
def moreP (v base : Nat → Nat) (i : Nat) : Bool := decide (base i < v i)
def lessP (v base : Nat → Nat) (i : Nat) : Bool := decide (v i < base i)
/-- a vector's bytes against a base -/
def shrinkB (v base : Nat → Nat) : List UInt8 := UInt8.ofNat (maskTo (moreP v base) 8) :: UInt8.ofNat (maskTo (lessP v base) 8) :: byTo v base 8
theorem amountB_len {n : Nat} (h : n < 4294967296) : (amountB n).length ≤ 5 := by
  have := numB_len 4 n h
  simp [amountB]; omega
theorem amountB_len_pos {n : Nat} (h : n ≠ 0) : 2 ≤ (amountB n).length := by
  have := (numB_len_pos (n := n)).2 h
  simp [amountB]; omega
theorem byTo_len (v base : Nat → Nat) (hv : ∀ i, i < 8 → v i < 4294967296) (hb : ∀ i, i < 8 → base i < 4294967296) : ∀ k, k ≤ 8 → (byTo v base k).length ≤ 5 * k
  | 0, _ => by simp [byTo]
  | k + 1, h => by
    have := byTo_len v base hv hb k (by omega)
    have h1 := hv k (by omega)
    have h2 := hb k (by omega)
    simp only [byTo, List.length_append]
    have : (dA (v k) (base k)).length ≤ 5 := by
      unfold dA
      split
      · exact amountB_len (by omega)
      · split
        · exact amountB_len (by omega)
        · simp
    omega
/-- one place is read -/
inductive RdR where
  | skip
  | err (e : Int)
  | val (x : Int) (rest : List UInt8)
def rdNum (sg : Int) (rest : List UInt8) : RdR :=
  if rest.length = 0 ∨ rest.length - 1 < (rest.getD 0 0).toNat then .err 8
  else if (asNum ((rest.take (1 + (rest.getD 0 0).toNat)).drop 1)).2 ≠ 0 ∨ (asNum ((rest.take (1 + (rest.getD 0 0).toNat)).drop 1)).1 = 0 ∨ 4294967295 < (asNum ((rest.take (1 + (rest.getD 0 0).toNat)).drop 1)).1 then .err 7
  else .val (sg * ((asNum ((rest.take (1 + (rest.getD 0 0).toNat)).drop 1)).1 : Int)) (rest.drop (1 + (rest.getD 0 0).toNat))
def rdOne (m s i : Nat) (rest : List UInt8) : RdR :=
  if s / 2 ^ i % 2 = 1 then rdNum (-1) rest else if m / 2 ^ i % 2 = 0 then .skip else rdNum 1 rest
def zI : Nat → Int := fun _ => 0
def setI (a : Nat → Int) (k : Nat) (x : Int) : Nat → Int := fun i => if i = k then x else a i
def rdFrom (m s : Nat) : Nat → Nat → (Nat → Int) → List UInt8 → (Nat → Int) × Int
  | 0, i, t, rest => if rest.length = 0 then (t, 0) else (zI, 4)
  | n + 1, i, t, rest => match rdOne m s i rest with
    | .skip => rdFrom m s n (i + 1) t rest
    | .err e => (zI, e)
    | .val x rest' => rdFrom m s n (i + 1) (setI t i x) rest'
def readB (l : List UInt8) : (Nat → Int) × Int :=
  if l.length < 2 then (zI, 8)
  else if (l.getD 0 0).toNat &&& (l.getD 1 0).toNat ≠ 0 then (zI, 7)
  else rdFrom (l.getD 0 0).toNat (l.getD 1 0).toNat 8 0 zI (l.drop 2)
theorem rdFrom_bound (m s : Nat) : ∀ n i t rest, (∀ j, -4294967296 < t j ∧ t j < 4294967296) → ∀ j, -4294967296 < (rdFrom m s n i t rest).1 j ∧ (rdFrom m s n i t rest).1 j < 4294967296
  | 0, i, t, rest, h, j => by
    simp only [rdFrom]
    split
    · exact h j
    · simp [zI]
  | n + 1, i, t, rest, h, j => by
    simp only [rdFrom]
    split
    · exact rdFrom_bound m s n _ _ _ h j
    · simp [zI]
    · rename_i x rest' hx
      refine rdFrom_bound m s n _ _ _ (fun k => ?_) j
      unfold setI
      split
      · have key : ∀ sg : Int, (sg = 1 ∨ sg = -1) → rdNum sg rest = .val x rest' → -4294967296 < x ∧ x < 4294967296 := fun sg hsg he => by
          unfold rdNum at he
          split at he
          · cases he
          · split at he
            · cases he
            · rename_i hn
              cases he
              generalize (asNum ((rest.take (1 + (rest.getD 0 0).toNat)).drop 1)).1 = q at hn
              rcases hsg with rfl | rfl <;> omega
        unfold rdOne at hx
        split at hx
        · exact key _ (.inr rfl) hx
        · split at hx
          · cases hx
          · exact key _ (.inl rfl) hx
      · exact h k
theorem readB_bound (l : List UInt8) (j : Nat) : -4294967296 < (readB l).1 j ∧ (readB l).1 j < 4294967296 := by
  unfold readB
  split
  · simp [zI]
  · split
    · simp [zI]
    · exact rdFrom_bound _ _ _ _ _ _ (fun j => by simp [zI]) j
theorem asNum_numB {n : Nat} (h : n < 18446744073709551616) : asNum (numB n) = (n, 0) := by
  have hl := numB_len 8 n h
  have hh := (numB_valB (numB n)).1 (by rw [valB_numB])
  unfold asNum
  rw [if_neg (by omega), if_neg hh, valB_numB]
theorem rdNum_amount (sg : Int) (n : Nat) (h0 : n ≠ 0) (h : n < 4294967296) (rest : List UInt8) : rdNum sg (amountB n ++ rest) = .val (sg * n) rest := by
  have hl := numB_len 4 n h
  have e0 : ((amountB n ++ rest).getD 0 0).toNat = (numB n).length := by
    simp only [amountB, List.cons_append, List.getD_cons_zero]
    rw [UInt8.toNat_ofNat']
    exact Nat.mod_eq_of_lt (by omega)
  have e1 : ((amountB n ++ rest).take (1 + (numB n).length)).drop 1 = numB n := by
    rw [Nat.add_comm]
    simp only [amountB, List.cons_append, List.take_succ_cons, List.drop_succ_cons, List.drop_zero]
    exact List.take_left' rfl
  have e2 : (amountB n ++ rest).drop (1 + (numB n).length) = rest := by
    rw [Nat.add_comm]
    simp only [amountB, List.cons_append, List.drop_succ_cons]
    exact List.drop_left' rfl
  unfold rdNum
  rw [e0, e1, e2, asNum_numB (by omega)]
  rw [if_neg (by simp [amountB]), if_neg (by simp; omega)]
theorem rdFrom_by (v base : Nat → Nat) (hv : ∀ i, i < 8 → v i < 4294967296) (hb : ∀ i, i < 8 → base i < 4294967296) : ∀ n i t, i + n = 8 →
    (rdFrom (maskTo (moreP v base) 8) (maskTo (lessP v base) 8) n i t (byFrom v base i n)).2 = 0 ∧ ∀ j, (rdFrom (maskTo (moreP v base) 8) (maskTo (lessP v base) 8) n i t (byFrom v base i n)).1 j = if i ≤ j ∧ j < 8 ∧ v j ≠ base j then (v j : Int) - base j else t j
  | 0, i, t, h => by
    simp only [rdFrom, byFrom, List.length_nil, if_true]
    refine ⟨trivial, fun j => ?_⟩
    rw [if_neg (by omega)]
  | n + 1, i, t, h => by
    have h1 := hv i (by omega)
    have h2 := hb i (by omega)
    have bm := maskTo_bit (moreP v base) i 8
    have bl := maskTo_bit (lessP v base) i 8
    simp only [rdFrom, byFrom]
    rcases Nat.lt_trichotomy (v i) (base i) with hc | hc | hc
    · have e1 : lessP v base i = true := by simp [lessP, hc]
      rw [e1, if_pos ⟨by omega, rfl⟩] at bl
      have e2 : rdOne (maskTo (moreP v base) 8) (maskTo (lessP v base) 8) i (dA (v i) (base i) ++ byFrom v base (i + 1) n) = .val (-1 * ((base i - v i : Nat) : Int)) (byFrom v base (i + 1) n) := by
        unfold rdOne dA
        rw [if_pos bl, if_neg (by omega), if_pos hc]
        exact rdNum_amount _ _ (by omega) (by omega) _
      rw [e2]
      obtain ⟨r1, r2⟩ := rdFrom_by v base hv hb n (i + 1) (setI t i (-1 * ((base i - v i : Nat) : Int))) (by omega)
      refine ⟨r1, fun j => ?_⟩
      simp only [r2]
      unfold setI
      by_cases hj : j = i
      · subst hj; rw [if_neg (by omega), if_pos rfl, if_pos ⟨by omega, by omega, by omega⟩]; omega
      · rw [if_neg hj]
        by_cases hj2 : i + 1 ≤ j ∧ j < 8 ∧ v j ≠ base j
        · rw [if_pos hj2, if_pos ⟨by omega, hj2.2⟩]
        · rw [if_neg hj2, if_neg (fun hx => hj2 ⟨by omega, hx.2⟩)]
    · have e1 : lessP v base i = false := by simp [lessP, hc]
      have e1' : moreP v base i = false := by simp [moreP, hc]
      rw [e1, if_neg (by simp)] at bl
      rw [e1', if_neg (by simp)] at bm
      have e2 : rdOne (maskTo (moreP v base) 8) (maskTo (lessP v base) 8) i (dA (v i) (base i) ++ byFrom v base (i + 1) n) = .skip := by
        unfold rdOne
        rw [if_neg (by omega), if_pos bm]
      have e3 : dA (v i) (base i) = [] := by unfold dA; rw [if_neg (by omega), if_neg (by omega)]
      rw [e2, e3, List.nil_append]
      obtain ⟨r1, r2⟩ := rdFrom_by v base hv hb n (i + 1) t (by omega)
      refine ⟨r1, fun j => ?_⟩
      simp only [r2]
      by_cases hj2 : i + 1 ≤ j ∧ j < 8 ∧ v j ≠ base j
      · rw [if_pos hj2, if_pos ⟨by omega, hj2.2⟩]
      · rw [if_neg hj2, if_neg (fun hx => hj2 ⟨by
          by_cases e : j = i
          · subst e; exact absurd hc hx.2.2
          · omega, hx.2⟩)]
    · have e1 : lessP v base i = false := by simp [lessP]; omega
      have e1' : moreP v base i = true := by simp [moreP, hc]
      rw [e1, if_neg (by simp)] at bl
      rw [e1', if_pos ⟨by omega, rfl⟩] at bm
      have e2 : rdOne (maskTo (moreP v base) 8) (maskTo (lessP v base) 8) i (dA (v i) (base i) ++ byFrom v base (i + 1) n) = .val (1 * ((v i - base i : Nat) : Int)) (byFrom v base (i + 1) n) := by
        unfold rdOne dA
        rw [if_neg (by omega), if_neg (by omega), if_pos hc]
        exact rdNum_amount _ _ (by omega) (by omega) _
      rw [e2]
      obtain ⟨r1, r2⟩ := rdFrom_by v base hv hb n (i + 1) (setI t i (1 * ((v i - base i : Nat) : Int))) (by omega)
      refine ⟨r1, fun j => ?_⟩
      simp only [r2]
      unfold setI
      by_cases hj : j = i
      · subst hj; rw [if_neg (by omega), if_pos rfl, if_pos ⟨by omega, by omega, by omega⟩]; omega
      · rw [if_neg hj]
        by_cases hj2 : i + 1 ≤ j ∧ j < 8 ∧ v j ≠ base j
        · rw [if_pos hj2, if_pos ⟨by omega, hj2.2⟩]
        · rw [if_neg hj2, if_neg (fun hx => hj2 ⟨by omega, hx.2⟩)]
theorem mask8 (p : Nat → Bool) : (UInt8.ofNat (maskTo p 8)).toNat = maskTo p 8 := by
  rw [UInt8.toNat_ofNat']
  exact Nat.mod_eq_of_lt (maskTo_lt p 8)
/-- what is made small against a base reads as the difference -/
theorem readB_shrink (v base : Nat → Nat) (hv : ∀ i, i < 8 → v i < 4294967296) (hb : ∀ i, i < 8 → base i < 4294967296) :
    (readB (shrinkB v base)).2 = 0 ∧ ∀ j, j < 8 → (readB (shrinkB v base)).1 j = (v j : Int) - base j := by
  have hz : maskTo (moreP v base) 8 &&& maskTo (lessP v base) 8 = 0 := (and_zero (maskTo_lt _ 8)).2 fun i hi ⟨h1, h2⟩ => by
    rw [maskTo_bit] at h1 h2
    simp only [moreP, lessP, decide_eq_true_eq] at h1 h2
    split at h1 <;> split at h2 <;> omega
  have e : readB (shrinkB v base) = rdFrom (maskTo (moreP v base) 8) (maskTo (lessP v base) 8) 8 0 zI (byFrom v base 0 8) := by
    unfold readB
    rw [if_neg (by simp [shrinkB])]
    simp only [shrinkB, List.getD_cons_zero, List.getD_cons_succ, mask8, List.drop_succ_cons, List.drop_zero]
    rw [if_neg (by rw [hz]; simp), byTo_from]
  rw [e]
  obtain ⟨r1, r2⟩ := rdFrom_by v base hv hb 8 0 zI (by omega)
  refine ⟨r1, fun j hj => ?_⟩
  rw [r2]
  by_cases h : v j = base j
  · rw [if_neg (fun hx => hx.2.2 h), h]; simp [zI]
  · rw [if_pos ⟨by omega, hj, h⟩]
/-- the vector of bytes against a base -/
def growOk (l : List UInt8) (base : Nat → Nat) : Prop := ∀ i, i < 8 → 0 ≤ (base i : Int) + (readB l).1 i ∧ (base i : Int) + (readB l).1 i ≤ 4294967295
instance (l : List UInt8) (base : Nat → Nat) : Decidable (growOk l base) := inferInstanceAs (Decidable (∀ i, i < 8 → 0 ≤ (base i : Int) + (readB l).1 i ∧ (base i : Int) + (readB l).1 i ≤ 4294967295))
def growB (l : List UInt8) (base : Nat → Nat) : (Nat → Nat) × Int :=
  if (readB l).2 ≠ 0 then (fun _ => 0, (readB l).2)
  else if growOk l base then (fun i => ((base i : Int) + (readB l).1 i).toNat, 0) else (fun _ => 0, 7)
theorem growB_shrink (v base : Nat → Nat) (hv : ∀ i, i < 8 → v i < 4294967296) (hb : ∀ i, i < 8 → base i < 4294967296) :
    (growB (shrinkB v base) base).2 = 0 ∧ ∀ i, i < 8 → (growB (shrinkB v base) base).1 i = v i := by
  obtain ⟨r1, r2⟩ := readB_shrink v base hv hb
  have hok : growOk (shrinkB v base) base := fun i hi => by rw [r2 i hi]; have := hv i hi; omega
  unfold growB
  rw [if_neg (by rw [r1]; simp), if_pos hok]
  refine ⟨rfl, fun i hi => ?_⟩
  show ((base i : Int) + (readB (shrinkB v base)).1 i).toNat = v i
  rw [r2 i hi]; omega
theorem growB_lt (l : List UInt8) (base : Nat → Nat) (i : Nat) (hi : i < 8) : (growB l base).1 i < 4294967296 := by
  unfold growB
  split
  · simp
  · split
    · rename_i h
      have := h i hi
      show ((base i : Int) + (readB l).1 i).toNat < 4294967296
      omega
    · simp
theorem shrinkB_congr {v w base b2 : Nat → Nat} (h : ∀ i, i < 8 → v i = w i) (hb : ∀ i, i < 8 → base i = b2 i) : shrinkB v base = shrinkB w b2 := by
  have e1 : ∀ k, k ≤ 8 → maskTo (moreP v base) k = maskTo (moreP w b2) k := fun k => by
    induction k with
    | zero => intro _; rfl
    | succ k ih =>
      intro hk
      have em : moreP v base k = moreP w b2 k := by unfold moreP; rw [h k (by omega), hb k (by omega)]
      simp only [maskTo, ih (by omega), em]
  have e2 : ∀ k, k ≤ 8 → maskTo (lessP v base) k = maskTo (lessP w b2) k := fun k => by
    induction k with
    | zero => intro _; rfl
    | succ k ih =>
      intro hk
      have em : lessP v base k = lessP w b2 k := by unfold lessP; rw [h k (by omega), hb k (by omega)]
      simp only [maskTo, ih (by omega), em]
  have e3 : ∀ k, k ≤ 8 → byTo v base k = byTo w b2 k := fun k => by
    induction k with
    | zero => intro _; rfl
    | succ k ih => intro hk; simp only [byTo, ih (by omega), h k (by omega), hb k (by omega)]
  unfold shrinkB
  rw [e1 8 (by omega), e2 8 (by omega), e3 8 (by omega)]
theorem shrinkB_inj {v w base : Nat → Nat} (hv : ∀ i, i < 8 → v i < 4294967296) (hw : ∀ i, i < 8 → w i < 4294967296) (hb : ∀ i, i < 8 → base i < 4294967296) (h : shrinkB v base = shrinkB w base) : ∀ i, i < 8 → v i = w i := fun i hi => by
  have h1 := (growB_shrink v base hv hb).2 i hi
  have h2 := (growB_shrink w base hw hb).2 i hi
  rw [h] at h1; omega
end Go.Proofs.Ytchaijijjjcdlaa.Fw
namespace Go.Proofs.Ytchaijijjjcdlaa.Fw
open Go.RowKit Go.Proofs
theorem wrap_u8_nat (n : Nat) : IntKind.u8.wrap (n : Int) = ((UInt8.ofNat n).toNat : Int) := by
  rw [UInt8.toNat_ofNat']
  simp [IntKind.wrap, IntKind.signed, IntKind.bits]
theorem wrap_u8_nat' (n : Nat) : IntKind.u8.wrap (n : Int) = ((n % 256 : Nat) : Int) := by simp [IntKind.wrap, IntKind.signed, IntKind.bits]
theorem ofInt64 (a : Nat) (h : a < 18446744073709551616) : (BitVec.ofInt 64 (a : Int)).toNat = a := by
  rw [BitVec.ofInt_natCast, BitVec.toNat_ofNat]; exact Nat.mod_eq_of_lt (by omega)
theorem bits_or_u64 (a b : Nat) (ha : a < 18446744073709551616) (hb : b < 18446744073709551616) : bits .or .u64 a b = ((a ||| b : Nat) : Int) := by
  have h : a ||| b < 2 ^ 64 := Nat.or_lt_two_pow ha hb
  show IntKind.u64.wrap ((BitVec.ofInt 64 (a : Int) ||| BitVec.ofInt 64 (b : Int)).toNat : Int) = _
  rw [BitVec.toNat_or, ofInt64 a ha, ofInt64 b hb]
  exact wrap_u64 ⟨by omega, by omega⟩
theorem shl8_or (n c : Nat) (hn : n < 72057594037927936) (hc : c < 256) : bits .or .u64 ((n : Int) * 256) (c : Int) = ((n * 256 + c : Nat) : Int) := by
  rw [show (n : Int) * 256 = ((256 * n : Nat) : Int) from by omega, bits_or_u64 _ _ (by omega) (by omega)]
  have := Nat.two_pow_add_eq_or_of_lt (i := 8) (b := c) (by omega) n
  rw [show (2 : Nat) ^ 8 = 256 from rfl] at this
  rw [← this]; omega
theorem bytesE_snoc (l : List UInt8) (c : UInt8) : bytesE l ++ [[.i .u8 (c.toNat : Int)]] = bytesE (l ++ [c]) := by simp [bytesE]
theorem bytesE_all (l : List UInt8) : ∀ c ∈ bytesE l, c.all PV.flat = true := by
  intro c hc
  obtain ⟨x, _, rfl⟩ := List.mem_map.1 hc
  rfl
theorem bytesE_one (l : List UInt8) : ∀ c ∈ bytesE l, c.length = 1 := by
  intro c hc
  obtain ⟨x, _, rfl⟩ := List.mem_map.1 hc
  rfl
theorem bytesE_nil {l : List UInt8} : bytesE l = [] ↔ l = [] := by simp [bytesE]
theorem bytesE_take' (l : List UInt8) (n : Nat) : (bytesE l).take n = bytesE (l.take n) := by simp [bytesE]
theorem bytesE_drop' (l : List UInt8) (n : Nat) : (bytesE l).drop n = bytesE (l.drop n) := by simp [bytesE]
theorem bytesE_app (a b : List UInt8) : bytesE a ++ bytesE b = bytesE (a ++ b) := by simp [bytesE]
theorem bytesE_cons (c : UInt8) (l : List UInt8) : [PV.i .u8 (c.toNat : Int)] :: bytesE l = bytesE (c :: l) := by simp [bytesE]
theorem shr_u64 (n k : Nat) (hk : k ≤ 7) : ((n : Nat) : Int).fdiv (2 ^ min (8 * k) 64) = ((n / 256 ^ k : Nat) : Int) := by
  rw [show min (8 * k) 64 = 8 * k from by omega]
  rw [Int.fdiv_eq_ediv_of_nonneg _ (by exact Int.le_of_lt (Int.pow_pos (by omega)))]
  rw [show (256 : Nat) ^ k = 2 ^ (8 * k) from by rw [Nat.pow_mul]]
  rw [Int.natCast_ediv, Int.natCast_pow]; rfl
theorem valB_take (l : List UInt8) (i : Nat) (h : i < l.length) : valB (l.take (i + 1)) = valB (l.take i) * 256 + (l.getD i 0).toNat := by
  rw [List.take_add_one, List.getElem?_eq_getElem h, Option.toList_some, valB_snoc, List.getD_eq_getElem?_getD, List.getElem?_eq_getElem h]; rfl
theorem valB_take_lt (l : List UInt8) (i : Nat) (h : i < 8) : valB (l.take i) < 72057594037927936 := by
  have h1 := valB_lt (l.take i)
  have h2 : 256 ^ (l.take i).length ≤ 256 ^ 7 := Nat.pow_le_pow_right (by omega) (by simp; omega)
  omega
theorem head_getD {l : List UInt8} (h : 0 < l.length) : (l.getD 0 0).toNat = 0 ↔ l.head? = some 0 := by
  cases l with
  | nil => simp at h
  | cons c l =>
    simp only [List.getD_cons_zero, List.head?_cons, Option.some.injEq]
    exact ⟨fun e => UInt8.toNat_inj.1 (by simpa using e), fun e => by rw [e]; rfl⟩
end Go.Proofs.Ytchaijijjjcdlaa.Fw
namespace Go.Proofs.Ytchaijijjjcdlaa.Fw
open Go.RowKit Go.Proofs
/-- slices of bytes, as they lie in a list -/
def BsEq (es : List (List PV)) (L : List (List UInt8)) : Prop := es.length = L.length ∧ ∀ k, k < L.length → ∃ f z, es[k]? = some [.sl f z (bytesE (L.getD k []))] ∧ (L.getD k [] = [] ∨ z = 1)
def bE (b : List UInt8) : List PV := [.sl false 1 (bytesE b)]
theorem bsEq_map (L : List (List UInt8)) : BsEq (L.map bE) L := ⟨by simp, fun k hk => ⟨false, 1, by simp [bE, hk], .inr rfl⟩⟩
theorem ld_sl {f z es} (K : KK) : LoadK (some [.sl f z es]) 0 1 false K = K (.pv (.sl f z es)) [] := by
  simp only [LoadK, ldX, eq_iff_iff]
  exact ⟨fun h => h.2.2, fun h => ⟨by simp, .inr trivial, h⟩⟩
theorem nilOr {b : List UInt8} {z : Nat} (h : b = [] ∨ z = 1) : (bytesE b = [] ∨ z = 1) = True := eq_true (h.imp (fun e => by rw [e]; rfl) id)
theorem packB_take {L : List (List UInt8)} {k : Nat} (h : k < L.length) : packB (L.take (k + 1)) = packB (L.take k) ++ fieldB (L.getD k []) := by
  rw [List.take_add_one, List.getElem?_eq_getElem h, Option.toList_some, packB_app, List.getD_eq_getElem?_getD, List.getElem?_eq_getElem h]
  simp [packB]
theorem shl8_orI (n c : Nat) (hn : n < 65536) (hc : c < 256) : bits .or .i64 ((n : Int) * 256) (c : Int) = ((n * 256 + c : Nat) : Int) := by
  have h : n * 256 ||| c < 2 ^ 32 := Nat.or_lt_two_pow (by omega) (by omega)
  rw [show (n : Int) * 256 = ((256 * n : Nat) : Int) from by omega]
  show IntKind.i64.wrap ((BitVec.ofInt 64 ((256 * n : Nat) : Int) ||| BitVec.ofInt 64 (c : Int)).toNat : Int) = _
  rw [BitVec.toNat_or, ofInt64 _ (by omega), ofInt64 c (by omega)]
  have := Nat.two_pow_add_eq_or_of_lt (i := 8) (b := c) (by omega) n
  rw [show (2 : Nat) ^ 8 = 256 from rfl] at this
  rw [← this, wrap_i64 (by omega)]; omega
theorem okCHead {x : SV} {f : Bool} {l : List UInt8} {h d} (hx : lents h [x] = [.pv (.sl f 1 (bytesE l))]) (hl : lendable [x] = true) (hne : l ≠ []) (hn : l.length ≤ 400000) :
    FunOk Try.prog 15 [x] h d (.tup [.pv (.i .i64 (headL l).1), .pv (.i .i64 (headL l).2.1), .pv (.i .i64 (headL l).2.2)]) [] := by
  refine fun_scalar mixed fn15 (by simp) hl rfl fun F => ?_
  rw [hx]
  have hpos : 0 < l.length := List.length_pos_iff.2 hne
  by_cases h1 : (l.getD 0 0).toNat < 255
  · have e : headL l = ((l.getD 0 0).toNat, 1, 0) := by unfold headL; rw [if_pos h1]
    have h1' : (((l.getD 0 0).toNat : Nat) : Int) < 255 := by omega
    have e2 : IntKind.i64.wrap (((l.getD 0 0).toNat : Nat) : Int) = ((l.getD 0 0).toNat : Int) := wrap_i64 (by omega)
    (try simp only [brK_e, gdK_e, skK_e, gdA_e, skA_e, pkK_e]); simp (maxSteps := 10000000) (disch := omega) only [ir15, load_byte_e, h1', e, e2, go_sem, ↓reduceIte, Nat.reduceEqDiff, Nat.reduceSub, Nat.reduceLeDiff, Nat.reduceAdd, Int.reduceEq, Int.reduceLT, Int.reduceLE]
    rfl
  · have h1' : ¬ (((l.getD 0 0).toNat : Nat) : Int) < 255 := by omega
    by_cases h2 : l.length < 3
    · have e : headL l = (0, 0, 8) := by unfold headL; rw [if_neg h1, if_pos h2]
      (try simp only [brK_e, gdK_e, skK_e, gdA_e, skA_e, pkK_e]); simp (maxSteps := 10000000) (disch := omega) only [ir15, load_byte_e, h1', e, go_sem, ↓reduceIte, Nat.reduceEqDiff, Nat.reduceSub, Nat.reduceLeDiff, Nat.reduceAdd, Int.reduceEq, Int.reduceLT, Int.reduceLE]
    · have t1 : Int.toNat 1 = 1 := rfl
      have t2 : Int.toNat 2 = 2 := rfl
      have b1 := (l.getD 1 0).toNat_lt
      have b2 := (l.getD 2 0).toNat_lt
      have w1 : IntKind.i64.wrap (((l.getD 1 0).toNat : Nat) : Int) = ((l.getD 1 0).toNat : Int) := wrap_i64 (by omega)
      have w2 : IntKind.i64.wrap (((l.getD 2 0).toNat : Nat) : Int) = ((l.getD 2 0).toNat : Int) := wrap_i64 (by omega)
      have e6 : ((2 : Int) ^ min (Int.toNat 8) 64) = 256 := rfl
      have w3 : IntKind.i64.wrap (((l.getD 1 0).toNat : Int) * 256) = ((l.getD 1 0).toNat : Int) * 256 := wrap_i64 (by omega)
      have hor : bits .or .i64 (((l.getD 1 0).toNat : Int) * 256) ((l.getD 2 0).toNat : Int) = (((l.getD 1 0).toNat * 256 + (l.getD 2 0).toNat : Nat) : Int) := shl8_orI _ _ (by omega) (by omega)
      by_cases h3 : (l.getD 1 0).toNat * 256 + (l.getD 2 0).toNat < 255
      · have e : headL l = (0, 0, 7) := by unfold headL; rw [if_neg h1, if_neg h2, if_pos h3]
        have h3' : (((l.getD 1 0).toNat * 256 + (l.getD 2 0).toNat : Nat) : Int) < 255 := by omega
        (try simp only [brK_e, gdK_e, skK_e, gdA_e, skA_e, pkK_e]); simp (maxSteps := 10000000) (disch := omega) only [ir15, load_byte_e, h1', e, t1, t2, w1, w2, e6, w3, hor, h3', go_sem, ↓reduceIte, Nat.reduceEqDiff, Nat.reduceSub, Nat.reduceLeDiff, Nat.reduceAdd, Int.reduceEq, Int.reduceLT, Int.reduceLE]
      · have e : headL l = ((l.getD 1 0).toNat * 256 + (l.getD 2 0).toNat, 3, 0) := by unfold headL; rw [if_neg h1, if_neg h2, if_neg h3]
        have h3' : ¬ (((l.getD 1 0).toNat * 256 + (l.getD 2 0).toNat : Nat) : Int) < 255 := by omega
        (try simp only [brK_e, gdK_e, skK_e, gdA_e, skA_e, pkK_e]); simp (maxSteps := 10000000) (disch := omega) only [ir15, load_byte_e, h1', e, t1, t2, w1, w2, e6, w3, hor, h3', go_sem, ↓reduceIte, Nat.reduceEqDiff, Nat.reduceSub, Nat.reduceLeDiff, Nat.reduceAdd, Int.reduceEq, Int.reduceLT, Int.reduceLE]
        rfl
theorem okFields {f : Bool} {z : Nat} {l : List UInt8} {h d} (hz : l = [] ∨ z = 1) (hn : l.length ≤ 400000) :
    FunOk Try.prog 13 [.pv (.sl f z (bytesE l))] h d (.fn (.func 14) [.pi 1 [[.sl false 1 (bytesE l)]] 0 0]) [] := by
  refine fun_pureW mixed fn13 (by simp) rfl rfl fun F => ?_
  have hz' := nilOr hz
  (try simp only [brK_e, gdK_e, skK_e, gdA_e, skA_e, pkK_e]); simp (maxSteps := 10000000) (disch := omega) only [ir13, hz', bytesE_length, go_sem, ↓reduceIte, Nat.reduceEqDiff, Nat.reduceSub, Nat.reduceLeDiff, Nat.reduceAdd, Int.reduceEq, Int.reduceLT, Int.reduceLE]
  refine ⟨_, wk_frz 6 rfl (wk_frzv 3 (x := .pv (.sl false 1 (bytesE l))) (cs := [.sl false 1 (bytesE l)]) rfl rfl (.same _)), ?_⟩
  (try simp only [brK_e, gdK_e, skK_e, gdA_e, skA_e, pkK_e]); simp (maxSteps := 10000000) (disch := omega) only [go_sem, ↓reduceIte, Nat.reduceEqDiff, Nat.reduceSub, Nat.reduceLeDiff, Nat.reduceAdd, Int.reduceEq, Int.reduceLT, Int.reduceLE]
end Go.Proofs.Ytchaijijjjcdlaa.Fw
namespace Go.Proofs.Ytchaijijjjcdlaa.Fw
open Go.RowKit Go.Proofs
def stFl (l : Nat) (most : Int) (r : List UInt8) (o : List (List UInt8)) : FS := mk [(3, .pv (.sl false 1 (bytesE r))), (0, .fn (.yield l) []), (1000000, .pv (.i .i64 0)), (1000004, .p 3 0), (1000005, .p 4 0), (1000006, .p 5 0), (1000007, .p 6 0)]
  [(3, some (.var (.pv (.i .i64 most)))), (4, some (.var (.pv (.sl true 0 [])))), (5, some (.var (.pv (.i .i64 0)))), (6, some (.var (.os 50))), (50, some (.row 1 (o.map bE)))]
theorem headL_le (l : List UInt8) : (headL l).1 < 65536 ∧ (headL l).2.1 ≤ 3 ∧ 0 ≤ (headL l).2.2 ∧ (headL l).2.2 ≤ 8 := by
  have b0 := (l.getD 0 0).toNat_lt
  have b1 := (l.getD 1 0).toNat_lt
  have b2 := (l.getD 2 0).toNat_lt
  unfold headL
  split
  · simp only; omega
  · split
    · simp
    · split
      · simp
      · simp only; omega
theorem ps_big : ∀ p ∈ [11, 12], p < big := by
  intro p hp
  have : big = 1000000 := rfl
  simp at hp; omega
set_option maxHeartbeats 4000000 in
theorem okUnpack {f : Bool} {z : Nat} {b : List UInt8} {most : Int} {h d} (hz : b = [] ∨ z = 1) (hn : b.length ≤ 300000) :
    FunOk Try.prog 10 [.pv (.sl f z (bytesE b)), .pv (.i .i64 most)] h d (.tup [.os d, .pv (.i .i64 (unpackG b [] most).2)]) [.new d (.row 1 ((unpackG b [] most).1.map bE))] := by
  refine fun_row2N mixed fn10 (by simp) rfl (.inl rfl) rfl fun F => ?_
  (try simp only [brK_e, gdK_e, skK_e, gdA_e, skA_e, pkK_e]); simp (maxSteps := 10000000) (disch := omega) only [ir10, go_sem, ↓reduceIte, Nat.reduceEqDiff, Nat.reduceSub, Nat.reduceLeDiff, Nat.reduceAdd, Int.reduceEq, Int.reduceLT, Int.reduceLE]
  refine call_with (okFields hz (by omega)) ?_
  (try simp only [brK_e, gdK_e, skK_e, gdA_e, skA_e, pkK_e]); simp (maxSteps := 10000000) (disch := omega) only [go_sem, ↓reduceIte, Nat.reduceEqDiff, Nat.reduceSub, Nat.reduceLeDiff, Nat.reduceAdd, Int.reduceEq, Int.reduceLT, Int.reduceLE]
  refine rng_ok mixed fn14 (by simp) fun l XI hc => ?_
  rw [enter_mk _ _ _ (by show 2 ≤ 1000000; omega)]
  (try simp only [brK_e, gdK_e, skK_e, gdA_e, skA_e, pkK_e]); simp (maxSteps := 10000000) (disch := omega) only [ir14, ld_sl, List.getElem?_cons_zero, go_sem, ↓reduceIte, Nat.reduceEqDiff, Nat.reduceSub, Nat.reduceLeDiff, Nat.reduceAdd, Int.reduceEq, Int.reduceLT, Int.reduceLE]
  refine loop_ok mixed (fun x : List UInt8 × List (List UInt8) => stFl l most x.1 x.2) (fun x => unpackG b [] most = unpackG x.1 x.2 most ∧ x.2.length + x.1.length ≤ 300000) (fun x => x.1.length) (b, []) ⟨rfl, by simpa using hn⟩ (wk_nilv 6 50 1 rfl (by decide) (by decide) (weak_mk ?_ ?_)) fun x hx => ?_
  · (try simp only [brK_e, gdK_e, skK_e, gdA_e, skA_e, pkK_e]); simp (maxSteps := 10000000) (disch := omega) only [go_sem, ↓reduceIte, Nat.reduceEqDiff, Nat.reduceSub, Nat.reduceLeDiff, Nat.reduceAdd, Int.reduceEq, Int.reduceLT, Int.reduceLE]
  · (try simp only [brK_e, gdK_e, skK_e, gdA_e, skA_e, pkK_e]); simp (maxSteps := 10000000) (disch := omega) only [go_sem, ↓reduceIte, Nat.reduceEqDiff, Nat.reduceSub, Nat.reduceLeDiff, Nat.reduceAdd, Int.reduceEq, Int.reduceLT, Int.reduceLE]
    rfl
  obtain ⟨r, o⟩ := x
  obtain ⟨hu, hlen⟩ := hx
  dsimp only at hu hlen ⊢
  rw [hu]
  by_cases hr : r = []
  · subst hr
    rw [unpackG_nil]
    (try simp only [brK_e, gdK_e, skK_e, gdA_e, skA_e, pkK_e]); simp (maxSteps := 10000000) (disch := omega) only [stFl, bytesE_length, List.length_nil, go_sem, ↓reduceIte, Nat.reduceEqDiff, Nat.reduceSub, Nat.reduceLeDiff, Nat.reduceAdd, Int.reduceEq, Int.reduceLT, Int.reduceLE]
  have hrp : 0 < r.length := List.length_pos_iff.2 hr
  have hle := headL_le r
  have her : errL r = if (headL r).2.2 = 0 then if r.length < (headL r).2.1 + (headL r).1 then 8 else 0 else (headL r).2.2 := rfl
  have hfl : fldL r = (r.drop (headL r).2.1).take (headL r).1 := rfl
  have hrs : rstL r = r.drop ((headL r).2.1 + (headL r).1) := rfl
  (try simp only [brK_e, gdK_e, skK_e, gdA_e, skA_e, pkK_e]); simp (maxSteps := 10000000) (disch := omega) only [stFl, bytesE_length, go_sem, ↓reduceIte, Nat.reduceEqDiff, Nat.reduceSub, Nat.reduceLeDiff, Nat.reduceAdd, Int.reduceEq, Int.reduceLT, Int.reduceLE]
  refine call_with (okCHead (f := false) (l := r) rfl rfl hr (by omega)) ?_
  have hlt := fun h => rstL_lt hr h
  rcases hh : headL r with ⟨n, fr, e⟩
  rw [hh] at hle her hfl hrs
  simp only at hle her hfl hrs
  have bad : errL r ≠ 0 → unpackG r o most = ([], errL r) := fun h => unpackG_err hr h
  by_cases he0 : e = 0
  · subst he0
    rw [if_pos rfl] at her
    by_cases hcut : r.length < fr + n
    · rw [if_pos hcut] at her
      rw [bad (by rw [her]; decide), her]
      (try simp only [brK_e, gdK_e, skK_e, gdA_e, skA_e, pkK_e]); simp (maxSteps := 10000000) (disch := omega) only [bytesE_length, go_sem, ↓reduceIte, Nat.reduceEqDiff, Nat.reduceSub, Nat.reduceLeDiff, Nat.reduceAdd, Int.reduceEq, Int.reduceLT, Int.reduceLE]
      refine yld_ok mixed hc ?_ rfl fun XA XB => ?_
      · (try simp only [brK_e, gdK_e, skK_e, gdA_e, skA_e, pkK_e]); simp (maxSteps := 10000000) (disch := omega) only [go_sem, ↓reduceIte, Nat.reduceEqDiff, Nat.reduceSub, Nat.reduceLeDiff, Nat.reduceAdd, Int.reduceEq, Int.reduceLT, Int.reduceLE]
      rw [round_mk _ _ _ _ ps_big]
      (try simp only [brK_e, gdK_e, skK_e, gdA_e, skA_e, pkK_e]); simp (maxSteps := 10000000) (disch := omega) only [go_sem, ↓reduceIte, Nat.reduceEqDiff, Nat.reduceSub, Nat.reduceLeDiff, Nat.reduceAdd, Int.reduceEq, Int.reduceLT, Int.reduceLE]
      exact .inr ⟨0, rfl, rfl, by decide⟩
    · rw [if_neg hcut] at her
      have hgo := hlt her
      have hfe : (r.take (fr + n)).drop fr = fldL r := by rw [hfl, List.drop_take]; congr 1; omega
      have e3 : ((fr : Int) + (n : Int)).toNat = fr + n := by omega
      have hfll : (fldL r).length ≤ 70000 := by rw [hfl, List.length_take]; omega
      (try simp only [brK_e, gdK_e, skK_e, gdA_e, skA_e, pkK_e]); simp (maxSteps := 10000000) (disch := omega) only [bytesE_length, e3, hfe, go_sem, ↓reduceIte, Nat.reduceEqDiff, Nat.reduceSub, Nat.reduceLeDiff, Nat.reduceAdd, Int.reduceEq, Int.reduceLT, Int.reduceLE]
      refine yld_ok mixed hc ?_ rfl fun XA XB => ?_
      · (try simp only [brK_e, gdK_e, skK_e, gdA_e, skA_e, pkK_e]); simp (maxSteps := 10000000) (disch := omega) only [go_sem, ↓reduceIte, Nat.reduceEqDiff, Nat.reduceSub, Nat.reduceLeDiff, Nat.reduceAdd, Int.reduceEq, Int.reduceLT, Int.reduceLE]
      rw [round_mk _ _ _ _ ps_big]
      by_cases hfull : most ≤ o.length
      · rw [unpackG_full hr her hfull]
        (try simp only [brK_e, gdK_e, skK_e, gdA_e, skA_e, pkK_e]); simp (maxSteps := 10000000) (disch := omega) only [List.length_map, go_sem, ↓reduceIte, Nat.reduceEqDiff, Nat.reduceSub, Nat.reduceLeDiff, Nat.reduceAdd, Int.reduceEq, Int.reduceLT, Int.reduceLE]
        exact .inr ⟨0, rfl, rfl, by decide⟩
      · rw [unpackG_go hr her hfull]
        (try simp only [brK_e, gdK_e, skK_e, gdA_e, skA_e, pkK_e]); simp (maxSteps := 10000000) (disch := omega) only [List.length_map, go_sem, ↓reduceIte, Nat.reduceEqDiff, Nat.reduceSub, Nat.reduceLeDiff, Nat.reduceAdd, Int.reduceEq, Int.reduceLT, Int.reduceLE]
        refine ⟨(rstL r, o ++ [fldL r]), ⟨rfl, by simp only [List.length_append, List.length_singleton]; omega⟩, hgo, wk_ren 23 50 (by decide) rfl (weak_mk ?_ ?_)⟩
        · (try simp only [brK_e, gdK_e, skK_e, gdA_e, skA_e, pkK_e]); simp (maxSteps := 10000000) (disch := omega) only [e3, ← hrs, go_sem, ↓reduceIte, Nat.reduceEqDiff, Nat.reduceSub, Nat.reduceLeDiff, Nat.reduceAdd, Int.reduceEq, Int.reduceLT, Int.reduceLE]
        · (try simp only [brK_e, gdK_e, skK_e, gdA_e, skA_e, pkK_e]); simp (maxSteps := 10000000) (disch := omega) only [List.map_append, List.map_cons, List.map_nil, bE, go_sem, ↓reduceIte, Nat.reduceEqDiff, Nat.reduceSub, Nat.reduceLeDiff, Nat.reduceAdd, Int.reduceEq, Int.reduceLT, Int.reduceLE]
  · rw [if_neg he0] at her
    rw [bad (by rw [her]; exact he0), her]
    (try simp only [brK_e, gdK_e, skK_e, gdA_e, skA_e, pkK_e]); simp (maxSteps := 10000000) (disch := omega) only [bytesE_length, go_sem, ↓reduceIte, Nat.reduceEqDiff, Nat.reduceSub, Nat.reduceLeDiff, Nat.reduceAdd, Int.reduceEq, Int.reduceLT, Int.reduceLE]
    refine yld_ok mixed hc ?_ rfl fun XA XB => ?_
    · (try simp only [brK_e, gdK_e, skK_e, gdA_e, skA_e, pkK_e]); simp (maxSteps := 10000000) (disch := omega) only [go_sem, ↓reduceIte, Nat.reduceEqDiff, Nat.reduceSub, Nat.reduceLeDiff, Nat.reduceAdd, Int.reduceEq, Int.reduceLT, Int.reduceLE]
    rw [round_mk _ _ _ _ ps_big]
    (try simp only [brK_e, gdK_e, skK_e, gdA_e, skA_e, pkK_e]); simp (maxSteps := 10000000) (disch := omega) only [go_sem, ↓reduceIte, Nat.reduceEqDiff, Nat.reduceSub, Nat.reduceLeDiff, Nat.reduceAdd, Int.reduceEq, Int.reduceLT, Int.reduceLE]
    exact .inr ⟨0, rfl, rfl, by decide⟩
end Go.Proofs.Ytchaijijjjcdlaa.Fw
namespace Go.Proofs.Ytchaijijjjcdlaa.Fw
open Go.RowKit Go.Proofs
theorem wrap_u8_shr (n : Nat) : IntKind.u8.wrap (((n / 256 : Nat) : Int)) = (((UInt8.ofNat (n / 256)).toNat : Nat) : Int) := wrap_u8_nat _
def stPack (f : Bool) (z : Nat) (es : List (List PV)) (L : List (List UInt8)) (k : Nat) : FS := mk [(11, .pv (.i .i64 k)), (10, .pv (.i .i64 L.length)), (9, .pv (.sl f z es)), (4, .os 50)] [(50, some (.row 1 (bytesE (packB (L.take k)))))]
def packLen : List (List UInt8) → Nat
  | [] => 0
  | f :: l => f.length + 3 + packLen l
theorem packB_len : ∀ L : List (List UInt8), (packB L).length ≤ packLen L
  | [] => Nat.le_refl _
  | f :: l => by
    have := packB_len l
    simp only [packB, packLen, List.length_append, fieldB_len]
    split <;> omega
theorem packLen_take : ∀ (L : List (List UInt8)) (k : Nat), packLen (L.take k) ≤ packLen L
  | [], k => by simp [packLen]
  | f :: l, 0 => by simp [packLen]
  | f :: l, k + 1 => by
    have := packLen_take l k
    simp only [List.take_succ_cons, packLen]; omega
theorem packLen_mem : ∀ {L : List (List UInt8)} {k : Nat}, k < L.length → (L.getD k []).length + 3 ≤ packLen L
  | f :: l, 0, _ => by simp only [packLen, List.getD_cons_zero]; omega
  | f :: l, k + 1, h => by
    have := packLen_mem (L := l) (k := k) (by simpa using h)
    simp only [packLen, List.getD_cons_succ]; omega
  | [], k, h => by simp at h
set_option maxHeartbeats 4000000 in
theorem okPack {x : SV} {f : Bool} {z : Nat} {es : List (List PV)} {L : List (List UInt8)} {h d} (hx : lents h [x] = [.pv (.sl f z es)]) (hl : lendable [x] = true) (he : BsEq es L) (hz : L = [] ∨ z = 1) (hb : packLen L ≤ 300000) (hall : ∀ b ∈ L, b.length ≤ 65535) :
    FunOk Try.prog 7 [x] h d (.tup [.os d, .pv (.i .i64 0)]) [.new d (.row 1 (bytesE (packB L)))] := by
  refine fun_row2 mixed fn7 (by simp) hl (.inr (bytesE_all _)) rfl fun F => ?_
  rw [hx]
  have hel := he.1
  have hLn : L.length ≤ 300000 := by
    have : ∀ L : List (List UInt8), L.length ≤ packLen L := fun L => by
      induction L with
      | nil => simp
      | cons f l ih => simp only [packLen, List.length_cons]; omega
    exact Nat.le_trans (this L) hb
  (try simp only [brK_e, gdK_e, skK_e, gdA_e, skA_e, pkK_e]); simp (maxSteps := 10000000) (disch := omega) only [ir7, hel, go_sem, ↓reduceIte, Nat.reduceEqDiff, Nat.reduceSub, Nat.reduceLeDiff, Nat.reduceAdd, Int.reduceEq, Int.reduceLT, Int.reduceLE]
  refine loop_ok mixed (stPack f z es L) (fun k => k ≤ L.length) (fun k => L.length - k) 0 (by simp) (wk_ren 8 50 (by decide) rfl (weak_mk ?_ ?_)) fun k hk => ?_
  · (try simp only [brK_e, gdK_e, skK_e, gdA_e, skA_e, pkK_e]); simp (maxSteps := 10000000) (disch := omega) only [go_sem, ↓reduceIte, Nat.reduceEqDiff, Nat.reduceSub, Nat.reduceLeDiff, Nat.reduceAdd, Int.reduceEq, Int.reduceLT, Int.reduceLE]
  · (try simp only [brK_e, gdK_e, skK_e, gdA_e, skA_e, pkK_e]); simp (maxSteps := 10000000) (disch := omega) only [go_sem, ↓reduceIte, Nat.reduceEqDiff, Nat.reduceSub, Nat.reduceLeDiff, Nat.reduceAdd, Int.reduceEq, Int.reduceLT, Int.reduceLE]
    rfl
  by_cases hlt : k < L.length
  · have hz1 : z = 1 := hz.resolve_left fun e => by subst e; simp at hlt
    subst hz1
    obtain ⟨f', z', hek, hz'⟩ := he.2 k hlt
    have hpt := packB_take hlt
    have hbk : (L.getD k []).length ≤ 65535 := by
      rw [List.getD_eq_getElem?_getD, List.getElem?_eq_getElem hlt]
      exact hall _ (List.getElem_mem hlt)
    have hpl := packLen_mem hlt
    have hpk := Nat.le_trans (packB_len (L.take k)) (packLen_take L k)
    generalize L.getD k [] = b at *
    have hzz := nilOr hz'
    have hwn : IntKind.u8.wrap (b.length : Int) = (((UInt8.ofNat b.length).toNat : Nat) : Int) := wrap_u8_nat _
    by_cases hs : b.length < 255
    · rw [fieldB_short hs] at hpt
      (try simp only [brK_e, gdK_e, skK_e, gdA_e, skA_e, pkK_e]); simp (maxSteps := 10000000) (disch := omega) only [stPack, hel, hek, ld_sl, bytesE_length, hzz, hwn, List.length_append, go_sem, ↓reduceIte, Nat.reduceEqDiff, Nat.reduceSub, Nat.reduceLeDiff, Nat.reduceAdd, Int.reduceEq, Int.reduceLT, Int.reduceLE]
      refine ⟨k + 1, by omega, by omega, wk_ren 38 50 (by decide) rfl (weak_mk ?_ ?_)⟩
      · (try simp only [brK_e, gdK_e, skK_e, gdA_e, skA_e, pkK_e]); simp (maxSteps := 10000000) (disch := omega) only [go_sem, ↓reduceIte, Nat.reduceEqDiff, Nat.reduceSub, Nat.reduceLeDiff, Nat.reduceAdd, Int.reduceEq, Int.reduceLT, Int.reduceLE]
      · (try simp only [brK_e, gdK_e, skK_e, gdA_e, skA_e, pkK_e]); simp (maxSteps := 10000000) (disch := omega) only [hpt, bytesE, List.map_append, List.map_cons, List.map_nil, go_sem, ↓reduceIte, Nat.reduceEqDiff, Nat.reduceSub, Nat.reduceLeDiff, Nat.reduceAdd, Int.reduceEq, Int.reduceLT, Int.reduceLE]
        simp
    · rw [fieldB_long hs] at hpt
      have e8 : ((2 : Int) ^ min (Int.toNat 8) 64) = 256 := rfl
      have hsh : ((b.length : Int).fdiv 256) = ((b.length / 256 : Nat) : Int) := by
        rw [Int.fdiv_eq_ediv_of_nonneg _ (by omega)]; omega
      have hwh := wrap_u8_shr b.length
      (try simp only [brK_e, gdK_e, skK_e, gdA_e, skA_e, pkK_e]); simp (maxSteps := 10000000) (disch := omega) only [stPack, hel, hek, ld_sl, bytesE_length, hzz, e8, hsh, hwn, hwh, List.length_append, go_sem, ↓reduceIte, Nat.reduceEqDiff, Nat.reduceSub, Nat.reduceLeDiff, Nat.reduceAdd, Int.reduceEq, Int.reduceLT, Int.reduceLE]
      refine ⟨k + 1, by omega, by omega, wk_ren 38 50 (by decide) rfl (weak_mk ?_ ?_)⟩
      · (try simp only [brK_e, gdK_e, skK_e, gdA_e, skA_e, pkK_e]); simp (maxSteps := 10000000) (disch := omega) only [go_sem, ↓reduceIte, Nat.reduceEqDiff, Nat.reduceSub, Nat.reduceLeDiff, Nat.reduceAdd, Int.reduceEq, Int.reduceLT, Int.reduceLE]
      · (try simp only [brK_e, gdK_e, skK_e, gdA_e, skA_e, pkK_e]); simp (maxSteps := 10000000) (disch := omega) only [hpt, bytesE, List.map_append, List.map_cons, List.map_nil, go_sem, ↓reduceIte, Nat.reduceEqDiff, Nat.reduceSub, Nat.reduceLeDiff, Nat.reduceAdd, Int.reduceEq, Int.reduceLT, Int.reduceLE]
        simp
  · obtain rfl : k = L.length := by omega
    have e := List.take_length (l := L)
    (try simp only [brK_e, gdK_e, skK_e, gdA_e, skA_e, pkK_e]); simp (maxSteps := 10000000) (disch := omega) only [stPack, e, go_sem, ↓reduceIte, Nat.reduceEqDiff, Nat.reduceSub, Nat.reduceLeDiff, Nat.reduceAdd, Int.reduceEq, Int.reduceLT, Int.reduceLE]
end Go.Proofs.Ytchaijijjjcdlaa.Fw
namespace Go.Proofs.Ytchaijijjjcdlaa.Fw
open Go.RowKit Go.Proofs
def fewT : List (List UInt8) → Nat
  | [] => 0
  | f :: l => min f.length 3000 + 1 + fewT l
def fewB (L : List (List UInt8)) : Bool := decide (fewT L ≤ 3000)
theorem fewT_take : ∀ {L : List (List UInt8)} {k : Nat}, k < L.length → fewT (L.take (k + 1)) = fewT (L.take k) + (min (L.getD k []).length 3000 + 1)
  | f :: l, 0, _ => by simp [fewT]
  | f :: l, k + 1, h => by
    have := fewT_take (L := l) (k := k) (by simpa using h)
    simp only [List.take_succ_cons, fewT, List.getD_cons_succ] at this ⊢
    omega
  | [], k, h => by simp at h
theorem fewT_mono : ∀ (L : List (List UInt8)) (k : Nat), fewT (L.take k) ≤ fewT L
  | [], k => by simp [fewT]
  | f :: l, 0 => by simp [fewT]
  | f :: l, k + 1 => by
    have := fewT_mono l k
    simp only [List.take_succ_cons, fewT]; omega
theorem few_len : ∀ {L : List (List UInt8)}, L.length ≤ fewT L
  | [] => Nat.le_refl _
  | f :: l => by have := few_len (L := l); simp only [fewT, List.length_cons]; omega
theorem few_all : ∀ {L : List (List UInt8)}, fewT L ≤ 3000 → ∀ b ∈ L, b.length ≤ 2999
  | [], _ => by simp
  | f :: l, h => by
    simp only [fewT] at h
    intro b hb
    rcases List.mem_cons.1 hb with rfl | hb
    · omega
    · exact few_all (L := l) (by omega) b hb
theorem few_pack : ∀ {L : List (List UInt8)}, fewT L ≤ 3000 → packLen L ≤ 3 * fewT L
  | [], _ => by simp [packLen]
  | f :: l, h => by
    simp only [fewT] at h
    have := few_pack (L := l) (by omega)
    simp only [packLen, fewT]; omega
def stFew (f : Bool) (z : Nat) (es : List (List PV)) (L : List (List UInt8)) (k : Nat) : FS := mk [(8, .pv (.i .i64 k)), (7, .pv (.i .i64 L.length)), (6, .pv (.sl f z es)), (3, .pv (.i .i64 (3000 - (fewT (L.take k) : Int))))] []
set_option maxHeartbeats 1000000 in
theorem okFew {x : SV} {f : Bool} {z : Nat} {es : List (List PV)} {L : List (List UInt8)} {h d} (hx : lents h [x] = [.pv (.sl f z es)]) (hl : lendable [x] = true) (he : BsEq es L) (hz : L = [] ∨ z = 1) (hLm : L.length ≤ maxLen) (hbm : ∀ b ∈ L, b.length ≤ maxLen) :
    FunOk Try.prog 6 [x] h d (.pv (.b (fewB L))) [] := by
  refine fun_scalar mixed fn6 (by simp) hl rfl fun F => ?_
  rw [hx]
  have hel := he.1
  (try simp only [brK_e, gdK_e, skK_e, gdA_e, skA_e, pkK_e]); simp (maxSteps := 10000000) (disch := omega) only [ir6, hel, go_sem, ↓reduceIte, Nat.reduceEqDiff, Nat.reduceSub, Nat.reduceLeDiff, Nat.reduceAdd, Int.reduceEq, Int.reduceLT, Int.reduceLE]
  refine loop_ok mixed (stFew f z es L) (fun k => k ≤ L.length ∧ fewT (L.take k) ≤ 3000) (fun k => L.length - k) 0 (by simp [fewT]) (weak_mk ?_ ?_) fun k hk => ?_
  · (try simp only [brK_e, gdK_e, skK_e, gdA_e, skA_e, pkK_e]); simp (maxSteps := 10000000) (disch := omega) only [List.take_zero, fewT, go_sem, ↓reduceIte, Nat.reduceEqDiff, Nat.reduceSub, Nat.reduceLeDiff, Nat.reduceAdd, Int.reduceEq, Int.reduceLT, Int.reduceLE]
  · (try simp only [brK_e, gdK_e, skK_e, gdA_e, skA_e, pkK_e]); simp (maxSteps := 10000000) (disch := omega) only [go_sem, ↓reduceIte, Nat.reduceEqDiff, Nat.reduceSub, Nat.reduceLeDiff, Nat.reduceAdd, Int.reduceEq, Int.reduceLT, Int.reduceLE]
  obtain ⟨hk, hfk⟩ := hk
  by_cases hlt : k < L.length
  · have hz1 : z = 1 := hz.resolve_left fun e => by subst e; simp at hlt
    subst hz1
    obtain ⟨f', z', hek, hz'⟩ := he.2 k hlt
    have hft := fewT_take hlt
    have hmo := fewT_mono L (k + 1)
    have hbk : (L.getD k []).length ≤ maxLen := by
      rw [List.getD_eq_getElem?_getD, List.getElem?_eq_getElem hlt]
      exact hbm _ (List.getElem_mem hlt)
    generalize L.getD k [] = b at *
    have hmn : min (b.length : Int) 3000 = ((min b.length 3000 : Nat) : Int) := by omega
    unfold maxLen at hbk hLm
    have hk1 := few_len (L := L.take k)
    have hk2 : (L.take k).length = k := by simp; omega
    by_cases hov : fewT (L.take (k + 1)) ≤ 3000
    · have e : (3000 : Int) - (fewT (L.take k) : Int) - (((min b.length 3000 : Nat) : Int) + 1) = 3000 - (fewT (L.take (k + 1)) : Int) := by omega
      (try simp only [brK_e, gdK_e, skK_e, gdA_e, skA_e, pkK_e]); simp (maxSteps := 10000000) (disch := omega) only [stFew, hel, hek, ld_sl, bytesE_length, hmn, e, go_sem, ↓reduceIte, Nat.reduceEqDiff, Nat.reduceSub, Nat.reduceLeDiff, Nat.reduceAdd, Int.reduceEq, Int.reduceLT, Int.reduceLE]
      refine loop_next (k + 1) _ _ rfl ⟨by omega, hov⟩ (by omega) ?_ ?_
      · (try simp only [brK_e, gdK_e, skK_e, gdA_e, skA_e, pkK_e]); simp (maxSteps := 10000000) (disch := omega) only [go_sem, ↓reduceIte, Nat.reduceEqDiff, Nat.reduceSub, Nat.reduceLeDiff, Nat.reduceAdd, Int.reduceEq, Int.reduceLT, Int.reduceLE]
      · (try simp only [brK_e, gdK_e, skK_e, gdA_e, skA_e, pkK_e]); simp (maxSteps := 10000000) (disch := omega) only [go_sem, ↓reduceIte, Nat.reduceEqDiff, Nat.reduceSub, Nat.reduceLeDiff, Nat.reduceAdd, Int.reduceEq, Int.reduceLT, Int.reduceLE]
    · have e : (3000 : Int) - (fewT (L.take k) : Int) - (((min b.length 3000 : Nat) : Int) + 1) = 3000 - (fewT (L.take (k + 1)) : Int) := by omega
      have hb : fewB L = false := by simp [fewB]; omega
      (try simp only [brK_e, gdK_e, skK_e, gdA_e, skA_e, pkK_e]); simp (maxSteps := 10000000) (disch := omega) only [stFew, hel, hek, ld_sl, bytesE_length, hmn, e, hb, go_sem, ↓reduceIte, Nat.reduceEqDiff, Nat.reduceSub, Nat.reduceLeDiff, Nat.reduceAdd, Int.reduceEq, Int.reduceLT, Int.reduceLE]
  · obtain rfl : k = L.length := by omega
    rw [List.take_length] at hfk
    have hb : fewB L = true := by simp [fewB]; omega
    (try simp only [brK_e, gdK_e, skK_e, gdA_e, skA_e, pkK_e]); simp (maxSteps := 10000000) (disch := omega) only [stFew, hb, go_sem, ↓reduceIte, Nat.reduceEqDiff, Nat.reduceSub, Nat.reduceLeDiff, Nat.reduceAdd, Int.reduceEq, Int.reduceLT, Int.reduceLE]
def xE (b : List UInt8) : List PV := [.s b]
theorem ld_xE (b : List UInt8) (K : KK) : LoadK (some (xE b)) 0 1 false K = K (.pv (.s b)) [] := by
  simp only [LoadK, ldX, eq_iff_iff]
  exact ⟨fun h => h.2.2, fun h => ⟨by simp [xE], .inr trivial, h⟩⟩
theorem xE_flat (L : List (List UInt8)) : ∀ c ∈ L.map xE, c.all PV.flat = true := by
  intro c hc
  obtain ⟨v, _, rfl⟩ := List.mem_map.1 hc
  rfl
def stTexts (f : Bool) (z : Nat) (es : List (List PV)) (L : List (List UInt8)) (k : Nat) : FS := mk [(8, .pv (.i .i64 k)), (7, .pv (.i .i64 L.length)), (6, .pv (.sl f z es)), (3, .os 40)] [(40, some (.row 1 ((L.take k).map xE)))]
set_option maxHeartbeats 1000000 in
theorem okTexts {x : SV} {f : Bool} {z : Nat} {es : List (List PV)} {L : List (List UInt8)} {h d} (hx : lents h [x] = [.pv (.sl f z es)]) (hl : lendable [x] = true) (he : BsEq es L) (hz : L = [] ∨ z = 1) (hn : L.length ≤ 300000) :
    FunOk Try.prog 9 [x] h d (.os d) [.new d (.row 1 (L.map xE))] := by
  refine fun_rowN mixed fn9 (by simp) hl (.inr (xE_flat _)) fun F => ?_
  rw [hx]
  have hel := he.1
  (try simp only [brK_e, gdK_e, skK_e, gdA_e, skA_e, pkK_e]); simp (maxSteps := 10000000) (disch := omega) only [ir9, hel, go_sem, ↓reduceIte, Nat.reduceEqDiff, Nat.reduceSub, Nat.reduceLeDiff, Nat.reduceAdd, Int.reduceEq, Int.reduceLT, Int.reduceLE]
  refine loop_ok mixed (stTexts f z es L) (fun k => k ≤ L.length) (fun k => L.length - k) 0 (by simp) (wk_nil 3 40 1 rfl (by omega) (weak_mk ?_ ?_)) fun k hk => ?_
  · (try simp only [brK_e, gdK_e, skK_e, gdA_e, skA_e, pkK_e]); simp (maxSteps := 10000000) (disch := omega) only [go_sem, ↓reduceIte, Nat.reduceEqDiff, Nat.reduceSub, Nat.reduceLeDiff, Nat.reduceAdd, Int.reduceEq, Int.reduceLT, Int.reduceLE]
  · (try simp only [brK_e, gdK_e, skK_e, gdA_e, skA_e, pkK_e]); simp (maxSteps := 10000000) (disch := omega) only [go_sem, ↓reduceIte, Nat.reduceEqDiff, Nat.reduceSub, Nat.reduceLeDiff, Nat.reduceAdd, Int.reduceEq, Int.reduceLT, Int.reduceLE]
    rfl
  by_cases hlt : k < L.length
  · have hz1 : z = 1 := hz.resolve_left fun e => by subst e; simp at hlt
    subst hz1
    obtain ⟨f', z', hek, hz'⟩ := he.2 k hlt
    have ht : L.take (k + 1) = L.take k ++ [L.getD k []] := by rw [List.take_add_one, List.getElem?_eq_getElem hlt, List.getD_eq_getElem?_getD, List.getElem?_eq_getElem hlt]; rfl
    generalize L.getD k [] = b at *
    have hkl : (L.take k).length ≤ 300000 := by simp; omega
    (try simp only [brK_e, gdK_e, skK_e, gdA_e, skA_e, pkK_e]); simp (maxSteps := 10000000) (disch := omega) only [stTexts, hel, hek, ld_sl, List.length_map, go_sem, ↓reduceIte, Nat.reduceEqDiff, Nat.reduceSub, Nat.reduceLeDiff, Nat.reduceAdd, Int.reduceEq, Int.reduceLT, Int.reduceLE]
    refine ⟨k + 1, by omega, by omega, wk_ren 16 40 (by decide) rfl (weak_mk ?_ ?_)⟩
    · (try simp only [brK_e, gdK_e, skK_e, gdA_e, skA_e, pkK_e]); simp (maxSteps := 10000000) (disch := omega) only [go_sem, ↓reduceIte, Nat.reduceEqDiff, Nat.reduceSub, Nat.reduceLeDiff, Nat.reduceAdd, Int.reduceEq, Int.reduceLT, Int.reduceLE]
    · (try simp only [brK_e, gdK_e, skK_e, gdA_e, skA_e, pkK_e]); simp (maxSteps := 10000000) (disch := omega) only [ht, List.map_append, List.map_cons, List.map_nil, xE, go_sem, ↓reduceIte, Nat.reduceEqDiff, Nat.reduceSub, Nat.reduceLeDiff, Nat.reduceAdd, Int.reduceEq, Int.reduceLT, Int.reduceLE]
  · obtain rfl : k = L.length := by omega
    have e := List.take_length (l := L)
    (try simp only [brK_e, gdK_e, skK_e, gdA_e, skA_e, pkK_e]); simp (maxSteps := 10000000) (disch := omega) only [stTexts, e, go_sem, ↓reduceIte, Nat.reduceEqDiff, Nat.reduceSub, Nat.reduceLeDiff, Nat.reduceAdd, Int.reduceEq, Int.reduceLT, Int.reduceLE]
def stSameS (f g : Bool) (L M : List (List UInt8)) (k : Nat) : FS := mk [(13, .pv (.i .i64 k)), (12, .pv (.i .i64 L.length)), (0, .pv (.sl f 1 (L.map xE))), (1, .pv (.sl g 1 (M.map xE)))] []
set_option maxHeartbeats 1000000 in
theorem okSameS {x y : SV} {f g : Bool} {L M : List (List UInt8)} {h d} (hx : lents h [x, y] = [.pv (.sl f 1 (L.map xE)), .pv (.sl g 1 (M.map xE))]) (hl : lendable [x, y] = true) (hn : L.length ≤ 300000) (hn' : M.length ≤ 300000) :
    FunOk Try.prog 11 [x, y] h d (.pv (.b (decide (L = M)))) [] := by
  refine fun_scalar mixed fn11 (by simp) hl rfl fun F => ?_
  rw [hx]
  by_cases hlen : L.length = M.length
  · have hle : (L.length : Int) = (M.length : Int) := by omega
    (try simp only [brK_e, gdK_e, skK_e, gdA_e, skA_e, pkK_e]); simp (maxSteps := 10000000) (disch := omega) only [ir11, List.length_map, hle, go_sem, ↓reduceIte, Nat.reduceEqDiff, Nat.reduceSub, Nat.reduceLeDiff, Nat.reduceAdd, Int.reduceEq, Int.reduceLT, Int.reduceLE]
    refine loop_ok mixed (stSameS f g L M) (fun k => k ≤ L.length ∧ L.take k = M.take k) (fun k => L.length - k) 0 (by simp) (weak_mk ?_ ?_) fun k hk => ?_
    · (try simp only [brK_e, gdK_e, skK_e, gdA_e, skA_e, pkK_e]); simp (maxSteps := 10000000) (disch := omega) only [List.length_map, hle, go_sem, ↓reduceIte, Nat.reduceEqDiff, Nat.reduceSub, Nat.reduceLeDiff, Nat.reduceAdd, Int.reduceEq, Int.reduceLT, Int.reduceLE]
    · (try simp only [brK_e, gdK_e, skK_e, gdA_e, skA_e, pkK_e]); simp (maxSteps := 10000000) (disch := omega) only [go_sem, ↓reduceIte, Nat.reduceEqDiff, Nat.reduceSub, Nat.reduceLeDiff, Nat.reduceAdd, Int.reduceEq, Int.reduceLT, Int.reduceLE]
    obtain ⟨hk, heq⟩ := hk
    by_cases hlt : k < L.length
    · have h1 : (L.map xE)[k]? = some (xE L[k]) := by simp [hlt]
      have hm : k < M.length := by omega
      have h2 : (M.map xE)[k]? = some (xE M[k]) := by simp [hm]
      by_cases hd : L[k] = M[k]
      · (try simp only [brK_e, gdK_e, skK_e, gdA_e, skA_e, pkK_e]); simp (maxSteps := 10000000) (disch := omega) only [stSameS, List.length_map, h1, h2, ld_xE, hd, go_sem, ↓reduceIte, Nat.reduceEqDiff, Nat.reduceSub, Nat.reduceLeDiff, Nat.reduceAdd, Int.reduceEq, Int.reduceLT, Int.reduceLE]
        refine loop_next (k + 1) _ _ rfl ⟨by omega, ?_⟩ (by omega) ?_ ?_
        · rw [List.take_add_one, List.take_add_one, heq, List.getElem?_eq_getElem hlt, List.getElem?_eq_getElem hm, hd]
        · (try simp only [brK_e, gdK_e, skK_e, gdA_e, skA_e, pkK_e]); simp (maxSteps := 10000000) (disch := omega) only [go_sem, ↓reduceIte, Nat.reduceEqDiff, Nat.reduceSub, Nat.reduceLeDiff, Nat.reduceAdd, Int.reduceEq, Int.reduceLT, Int.reduceLE]
        · (try simp only [brK_e, gdK_e, skK_e, gdA_e, skA_e, pkK_e]); simp (maxSteps := 10000000) (disch := omega) only [go_sem, ↓reduceIte, Nat.reduceEqDiff, Nat.reduceSub, Nat.reduceLeDiff, Nat.reduceAdd, Int.reduceEq, Int.reduceLT, Int.reduceLE]
      · have hne : ¬ L = M := fun e => hd (by subst e; rfl)
        (try simp only [brK_e, gdK_e, skK_e, gdA_e, skA_e, pkK_e]); simp (maxSteps := 10000000) (disch := omega) only [stSameS, List.length_map, h1, h2, ld_xE, hd, hne, go_sem, ↓reduceIte, Nat.reduceEqDiff, Nat.reduceSub, Nat.reduceLeDiff, Nat.reduceAdd, Int.reduceEq, Int.reduceLT, Int.reduceLE]
    · obtain rfl : k = L.length := by omega
      have hLM : L = M := by
        rw [List.take_length] at heq
        rw [heq, hlen, List.take_length]
      subst hLM
      (try simp only [brK_e, gdK_e, skK_e, gdA_e, skA_e, pkK_e]); simp (maxSteps := 10000000) (disch := omega) only [stSameS, List.length_map, go_sem, ↓reduceIte, Nat.reduceEqDiff, Nat.reduceSub, Nat.reduceLeDiff, Nat.reduceAdd, Int.reduceEq, Int.reduceLT, Int.reduceLE]
  · have hle : ¬ (L.length : Int) = (M.length : Int) := by omega
    have hne : ¬ L = M := fun e => hlen (by rw [e])
    (try simp only [brK_e, gdK_e, skK_e, gdA_e, skA_e, pkK_e]); simp (maxSteps := 10000000) (disch := omega) only [ir11, List.length_map, hle, hne, go_sem, ↓reduceIte, Nat.reduceEqDiff, Nat.reduceSub, Nat.reduceLeDiff, Nat.reduceAdd, Int.reduceEq, Int.reduceLT, Int.reduceLE]
end Go.Proofs.Ytchaijijjjcdlaa.Fw
namespace Go.Proofs.Ytchaijijjjcdlaa.Fw
open Go.RowKit
/-! How an argument of any plain type that lies in a world reads in the small language. -/
noncomputable abbrev allOf (w : World) : View := viewOf w fun _ => False
theorem cell_view {w : World} {a : Addr} {v : Value} (h : w.cell? a = some v) : a.spot = none ∧ ∃ arr, allOf w a.block = some arr ∧ arr[a.off]? = some v := by
  unfold World.cell? at h
  split at h
  · rename_i c ty fr hb
    split at h
    · cases h
    · rename_i hs
      refine ⟨by cases hx : a.spot <;> simp_all, c, ?_, h⟩
      unfold allOf viewOf cellsAt
      simp [hb]
  · cases h
inductive Sh where
  | int (k : IntKind) | bool | str | arr (n : Nat) (s : Sh) | st (l : List Sh) | sl (s : Sh)
mutual
def Sh.w : Sh → Nat
  | .arr n s => n * s.w
  | .st l => Sh.wL l
  | _ => 1
def Sh.wL : List Sh → Nat
  | [] => 0
  | s :: l => s.w + Sh.wL l
end
mutual
def shB (P : Program) : Sh → TypeId → Bool
  | .int k, t => match P.underlying t with | some (.int k') => decide (k = k') | _ => false
  | .bool, t => match P.underlying t with | some .bool => true | _ => false
  | .str, t => match P.underlying t with | some .string => true | _ => false
  | .arr n s, t => match P.underlying t with | some (.array n' e) => decide (n = n') && decide (P.cellsOf e = s.w) && decide (P.cellsOf t = n * s.w) && shB P s e | _ => false
  | .st l, t => match P.underlying t with | some (.struct fs) => decide (P.cellsOf t = Sh.wL l) && shBL P l fs.toList 0 | _ => false
  | .sl s, t => match P.underlying t with | some (.slice e) => decide (P.cellsOf e = s.w) && decide (0 < s.w) && shB P s e | _ => false
def shBL (P : Program) : List Sh → List Field → Nat → Bool
  | [], [], _ => true
  | s :: l, f :: fs, off => decide (f.offset = off) && decide (P.cellsOf f.type = s.w) && shB P s f.type && shBL P l fs (off + s.w)
  | _, _, _ => false
end
mutual
/-- cells of a shape -/
def GC : Sh → List PV → Prop
  | .int k, cs => ∃ n, cs = [.i k n] ∧ (Lit.int k n).wf = true
  | .bool, cs => ∃ b, cs = [.b b]
  | .str, cs => ∃ l, cs = [.s l] ∧ l.length ≤ maxLen
  | .arr n s, cs => ∃ cc : List (List PV), cs = cc.flatten ∧ cc.length = n ∧ ∀ c ∈ cc, GC s c
  | .st l, cs => GCL l cs
  | .sl s, cs => ∃ es, cs = [.sl false s.w es] ∧ es.length ≤ maxLen ∧ ∀ c ∈ es, GC s c
def GCL : List Sh → List PV → Prop
  | [], cs => cs = []
  | s :: l, cs => ∃ c cs', cs = c ++ cs' ∧ GC s c ∧ GCL l cs'
end
theorem flat_len {w : Nat} : ∀ {cc : List (List PV)}, (∀ c ∈ cc, c.length = w) → cc.flatten.length = cc.length * w
  | [], _ => by simp
  | c :: cc, h => by
    rw [List.flatten_cons, List.length_append, flat_len fun c hc => h c (by simp [hc]), h c (by simp), List.length_cons, Nat.add_mul]; omega
mutual
theorem GC.len : ∀ {s : Sh} {cs : List PV}, GC s cs → cs.length = s.w
  | .int k, cs, h => by obtain ⟨n, rfl, _⟩ := h; rfl
  | .bool, cs, h => by obtain ⟨n, rfl⟩ := h; rfl
  | .str, cs, h => by obtain ⟨n, rfl, _⟩ := h; rfl
  | .arr n s, cs, h => by
    simp only [GC] at h
    obtain ⟨cc, rfl, rfl, h⟩ := h
    rw [flat_len fun c hc => GC.len (h c hc)]; rfl
  | .st l, cs, h => by simp only [GC] at h; simp only [Sh.w]; exact GCL.len h
  | .sl s, cs, h => by obtain ⟨n, rfl, _⟩ := h; rfl
theorem GCL.len : ∀ {l : List Sh} {cs : List PV}, GCL l cs → cs.length = Sh.wL l
  | [], cs, h => by simp only [GCL] at h; subst h; rfl
  | s :: l, cs, h => by
    simp only [GCL] at h
    obtain ⟨c, cs', rfl, h1, h2⟩ := h
    rw [List.length_append, GC.len h1, GCL.len h2]; rfl
end
theorem arr_GC {V : View} {s : Sh} : ∀ (n : Nat) (vs : List Value), vs.length = n * s.w → (∀ i, i < n → ∃ c, GC s c ∧ PCells V c ((vs.drop (i * s.w)).take s.w)) → ∃ cc : List (List PV), cc.length = n ∧ (∀ c ∈ cc, GC s c) ∧ PCells V cc.flatten vs
  | 0, vs, hl, h => by
    have : vs = [] := List.eq_nil_of_length_eq_zero (by omega)
    subst this
    exact ⟨[], rfl, by simp, PCells.nil⟩
  | n + 1, vs, hl, h => by
    rw [Nat.add_mul] at hl
    obtain ⟨c, g, p⟩ := h 0 (by omega)
    rw [Nat.zero_mul, List.drop_zero] at p
    obtain ⟨cc, e1, e2, e3⟩ := arr_GC (V := V) (s := s) n (vs.drop s.w) (by rw [List.length_drop]; omega) fun i hi => by
      obtain ⟨c', g', p'⟩ := h (i + 1) (by omega)
      refine ⟨c', g', ?_⟩
      rw [List.drop_drop, show s.w + i * s.w = (i + 1) * s.w from by rw [Nat.add_mul]; omega]
      exact p'
    refine ⟨c :: cc, by simp [e1], fun x hx => ?_, ?_⟩
    · rcases List.mem_cons.1 hx with rfl | hx
      · exact g
      · exact e2 x hx
    · rw [List.flatten_cons]
      have := PCells.append p e3
      rwa [List.take_append_drop] at this
theorem add_add {a : Addr} (h : a.spot = none) (i j : Nat) : (a.add i).add j = ⟨a.block, a.off + (i + j), none⟩ := by
  obtain ⟨b, o, sp⟩ := a
  simp only at h; subst h
  unfold Addr.add
  by_cases hi : i = 0
  · subst hi
    by_cases hj : j = 0
    · subst hj; simp
    · simp [hj]
  · by_cases hj : j = 0
    · subst hj; simp [hi]
    · simp [hi, hj]; omega
theorem slice_GC {w : World} {s : Sh} {a : Addr} {len cap : Nat} (hcap : len ≤ cap) (hw : 0 < s.w)
    (h : ∀ i, i < len → ∃ c vs, GC s c ∧ PCells (allOf w) c vs ∧ w.cells? 0 (a.add (i * s.w)) s.w = some vs) :
    ∃ es : List (List PV), es.length = len ∧ (∀ c ∈ es, GC s c) ∧ PConc (allOf w) (.sl false s.w es) (.slice (some a) len cap) := by
  by_cases h0 : len = 0
  · subst h0
    exact ⟨[], rfl, by simp, .sl false s.w [] (some a) cap (fun _ _ => undef) 0 0 #[] (by simp) (by simp) (by simp) (by simp) (by simp) (by simp)⟩
  · have h' : ∀ i, ∃ c vs, i < len → GC s c ∧ PCells (allOf w) c vs ∧ w.cells? 0 (a.add (i * s.w)) s.w = some vs := fun i => by
      by_cases hi : i < len
      · obtain ⟨c, vs, h1⟩ := h i hi; exact ⟨c, vs, fun _ => h1⟩
      · exact ⟨[], [], fun h => absurd h hi⟩
    obtain ⟨c, hc⟩ := Classical.axiomOfChoice h'
    obtain ⟨vs, hv⟩ := Classical.axiomOfChoice hc
    obtain ⟨g0, p0, k0⟩ := hv 0 (by omega)
    obtain ⟨_, l0, c0⟩ := World.cells?_some k0
    have c00 := c0 0 hw
    have hlen0 : 0 < (vs 0).length := by omega
    rw [List.getElem?_eq_getElem hlen0, Nat.zero_mul] at c00
    have e0 : (a.add 0).add 0 = a := by simp [Addr.add]
    rw [e0] at c00
    obtain ⟨hs, arr, harr, _⟩ := cell_view c00
    have hget : ∀ i j, i < len → j < s.w → arr[a.off + (i * s.w + j)]? = (vs i)[j]? := fun i j hi hj => by
      obtain ⟨_, _, k⟩ := hv i hi
      obtain ⟨_, ll, cc⟩ := World.cells?_some k
      have h1 := cc j hj
      have hlt : j < (vs i).length := by omega
      rw [List.getElem?_eq_getElem hlt, add_add hs] at h1
      obtain ⟨_, arr', ha', h2⟩ := cell_view h1
      simp only at ha' h2
      rw [harr] at ha'; cases ha'
      rw [h2, List.getElem?_eq_getElem hlt]
    have hel : ∀ i, i < len → ((List.range len).map c)[i]? = some (c i) := fun i hi => by simp [hi]
    refine ⟨(List.range len).map c, by simp, fun x hx => ?_, ?_⟩
    · obtain ⟨i, hi, rfl⟩ := List.mem_map.1 hx
      exact (hv i (by simpa using hi)).1
    · have e := PConc.sl (V := allOf w) false s.w ((List.range len).map c) (some a) cap (fun i j => (vs i).getD j undef) a.block a.off arr (by simpa using hcap) (by simp) (fun x hx => by
          obtain ⟨i, hi, rfl⟩ := List.mem_map.1 hx
          exact (hv i (by simpa using hi)).1.len) (fun _ => by
          obtain ⟨b, o, sp⟩ := a
          simp only at hs; subst hs
          exact ⟨rfl, harr⟩) (fun i j hi hj => by
          have hi' : i < len := by simpa using hi
          rw [hget i j hi' hj]
          have : j < (vs i).length := by
            obtain ⟨_, ll, _⟩ := World.cells?_some (hv i hi').2.2; omega
          simp [List.getD_eq_getElem?_getD, this]) (fun i j x y hx hy => by
          have hi' : i < len := by
            have := (List.getElem?_eq_some_iff.1 hx).1; simpa using this
          rw [hel i hi'] at hx; cases hx
          obtain ⟨v, hv1, hv2⟩ := (hv i hi').2.1.2 j y hy
          simp only [List.getD_eq_getElem?_getD, hv1, Option.getD_some]; exact hv2)
      simpa using e
section
variable {H : Type} {enc : TypeId × Value → H} {P : Program} {w : World} {spare : Nat → Bool} {held : Bool}
mutual
theorem trod_GC : ∀ (s : Sh) {t : TypeId} {fuel : Nat} {vs : List Value} {x}, shB P s t = true → DataW.trod enc P w 0 spare held fuel t vs = some x → ∃ cs, GC s cs ∧ PCells (allOf w) cs vs
  | .int k, t, fuel, vs, x, hs, h => by
    simp only [shB] at hs
    split at hs
    · rename_i k' hu
      obtain rfl := of_decide_eq_true hs
      obtain ⟨n, rfl, _, hw⟩ := DataW.trod_int hu h
      exact ⟨[.i k n], ⟨n, rfl, hw⟩, PCells.cons (.i _ _) PCells.nil⟩
    · cases hs
  | .bool, t, fuel, vs, x, hs, h => by
    simp only [shB] at hs
    split at hs
    · rename_i hu
      obtain ⟨n, rfl, _⟩ := DataW.trod_bool hu h
      exact ⟨[.b n], ⟨n, rfl⟩, PCells.cons (.b _) PCells.nil⟩
    · cases hs
  | .str, t, fuel, vs, x, hs, h => by
    simp only [shB] at hs
    split at hs
    · rename_i hu
      obtain ⟨b, rfl, _, hl⟩ := DataW.trod_string hu h
      refine ⟨[.s b.data.toList], ⟨b.data.toList, rfl, by simpa using hl⟩, PCells.cons ?_ PCells.nil⟩
      have := PConc.s (V := allOf w) b.data.toList
      simpa using this
    · cases hs
  | .arr n s, t, fuel, vs, x, hs, h => by
    simp only [shB] at hs
    split at hs
    · rename_i n' e hu
      simp only [Bool.and_eq_true, decide_eq_true_eq] at hs
      obtain ⟨⟨⟨rfl, h1⟩, h2⟩, h3⟩ := hs
      obtain ⟨xs, m, rfl, _, hl, hx, hg⟩ := DataW.trod_array hu h
      rw [h1] at hg
      obtain ⟨cc, e1, e2, e3⟩ := arr_GC (V := allOf w) (s := s) n vs (by rw [hl, h2]) fun i hi => by
        have := hg i hi
        rw [List.getElem?_eq_getElem (by omega)] at this
        exact trod_GC s h3 this
      exact ⟨cc.flatten, by simp only [GC]; exact ⟨cc, rfl, e1, e2⟩, e3⟩
    · cases hs
  | .st l, t, fuel, vs, x, hs, h => by
    simp only [shB] at hs
    split at hs
    · rename_i fs hu
      simp only [Bool.and_eq_true, decide_eq_true_eq] at hs
      obtain ⟨h2, h3⟩ := hs
      obtain ⟨xs, m, rfl, _, hl, hx, hg⟩ := DataW.trod_struct hu h
      obtain ⟨cs, e1, e2⟩ := trod_GCL l (off := 0) (vs := vs) h3 fun f hf => by
        obtain ⟨i, hi⟩ := List.mem_iff_getElem?.1 hf
        have hi2 : fs[i]? = some f := by simpa using hi
        have := hg i f hi2
        have hlt := (Array.getElem?_eq_some_iff.1 hi2).1
        rw [List.getElem?_eq_getElem (by omega)] at this
        exact ⟨_, _, this⟩
      rw [List.drop_zero, ← h2, ← hl, List.take_length] at e2
      exact ⟨cs, by simp only [GC]; exact e1, e2⟩
    · cases hs
  | .sl s, t, fuel, vs, x, hs, h => by
    simp only [shB] at hs
    split at hs
    · rename_i e hu
      simp only [Bool.and_eq_true, decide_eq_true_eq] at hs
      obtain ⟨⟨h1, h2⟩, h3⟩ := hs
      rcases DataW.trod_slice hu h with ⟨rfl, _⟩ | ⟨a, len, cap, elems, rest, n, rfl, rfl, _, _, hl, hm, hle, hg, _⟩
      · exact ⟨[.sl false s.w []], by simp only [GC]; exact ⟨[], rfl, by simp, by simp⟩, PCells.cons (.sl false s.w [] none 0 (fun _ _ => undef) 0 0 #[] (by simp) (by simp) (by simp) (by simp) (by simp) (by simp)) PCells.nil⟩
      · rw [h1] at hg
        obtain ⟨es, e1, e2, e3⟩ := slice_GC (w := w) (s := s) (a := a) hl h2 fun i hi => by
          have h4 := hg i hi
          rw [List.getElem?_eq_getElem (by omega)] at h4
          obtain ⟨vs, h5, h6⟩ := Option.bind_eq_some_iff.1 h4
          obtain ⟨c, g, p⟩ := trod_GC s h3 h6
          exact ⟨c, vs, g, p, h5⟩
        exact ⟨[.sl false s.w es], by simp only [GC]; exact ⟨es, rfl, by omega, e2⟩, PCells.cons e3 PCells.nil⟩
    · cases hs
theorem trod_GCL : ∀ (l : List Sh) {fs : List Field} {off : Nat} {vs : List Value}, shBL P l fs off = true →
    (∀ f ∈ fs, ∃ n x, DataW.trod enc P w 0 spare held n f.type ((vs.drop f.offset).take (P.cellsOf f.type)) = some x) → ∃ cs, GCL l cs ∧ PCells (allOf w) cs ((vs.drop off).take (Sh.wL l))
  | [], fs, off, vs, hs, h => ⟨[], by simp only [GCL], by simp only [Sh.wL, List.take_zero]; exact PCells.nil⟩
  | s :: l, [], off, vs, hs, h => by simp [shBL] at hs
  | s :: l, f :: fs, off, vs, hs, h => by
    simp only [shBL, Bool.and_eq_true, decide_eq_true_eq] at hs
    obtain ⟨⟨⟨h1, h2⟩, h3⟩, h4⟩ := hs
    obtain ⟨n, x, hx⟩ := h f (by simp)
    obtain ⟨c, g, p⟩ := trod_GC s h3 hx
    obtain ⟨cs, gl, pl⟩ := trod_GCL l (vs := vs) h4 fun f hf => h f (by simp [hf])
    refine ⟨c ++ cs, by simp only [GCL]; exact ⟨c, cs, rfl, g, gl⟩, ?_⟩
    rw [h1, h2] at p
    have := PCells.append p pl
    have e : (vs.drop off).take (Sh.wL (s :: l)) = (vs.drop off).take s.w ++ (vs.drop (off + s.w)).take (Sh.wL l) := by
      simp only [Sh.wL]
      rw [List.take_add, List.drop_drop]
    rw [e]; exact this
end
end
mutual
/-- the value of cells of a shape -/
def toSV : Sh → List PV → SV
  | .arr n s, cs => .vec (n * s.w) cs
  | .st l, cs => .agg (toSegs l cs)
  | _, cs => .pv (cs.headD (.b false))
def toSegs : List Sh → List PV → List SV
  | [], _ => []
  | s :: l, cs => (toSV s (cs.take s.w)).segs ++ toSegs l (cs.drop s.w)
end
def Sh.isAg : Sh → Bool
  | .arr _ _ => true
  | .st _ => true
  | _ => false
theorem cells_append {V : View} {ρ : Nat → Value} : ∀ {l m : List SV} {a b : List Value}, Cells V ρ l a → Cells V ρ m b → Cells V ρ (l ++ m) (a ++ b)
  | [], m, a, b, h1, h2 => by simp only [Cells] at h1; subst h1; exact h2
  | x :: l, m, a, b, h1, h2 => by
    simp only [Cells, List.cons_append] at h1 ⊢
    obtain ⟨u, us, rfl, c, d, e, f⟩ := h1
    exact ⟨u, us ++ b, by simp, c, d, e, cells_append f h2⟩
mutual
theorem conc_toSV {V : View} {ρ : Nat → Value} : ∀ (s : Sh) {cs : List PV} {v : Value}, GC s cs → PCells V cs (flatV v) → (s.isAg = true → ∃ vs, v = .agg ⟨vs⟩) → (s.isAg = false → ∀ vs, v ≠ .agg vs) → Conc V ρ (toSV s cs) v
  | .int k, cs, v, g, p, _, h => by
    obtain ⟨n, rfl, _⟩ := g
    have e : flatV v = [v] := by cases v <;> first | rfl | exact absurd rfl (h rfl _)
    rw [e] at p
    obtain ⟨v', h1, h2⟩ := p.2 0 _ rfl
    simp at h1; subst h1
    simp only [toSV, Conc, List.headD_cons]; exact h2
  | .bool, cs, v, g, p, _, h => by
    obtain ⟨n, rfl⟩ := g
    have e : flatV v = [v] := by cases v <;> first | rfl | exact absurd rfl (h rfl _)
    rw [e] at p
    obtain ⟨v', h1, h2⟩ := p.2 0 _ rfl
    simp at h1; subst h1
    simp only [toSV, Conc, List.headD_cons]; exact h2
  | .str, cs, v, g, p, _, h => by
    obtain ⟨n, rfl, _⟩ := g
    have e : flatV v = [v] := by cases v <;> first | rfl | exact absurd rfl (h rfl _)
    rw [e] at p
    obtain ⟨v', h1, h2⟩ := p.2 0 _ rfl
    simp at h1; subst h1
    simp only [toSV, Conc, List.headD_cons]; exact h2
  | .sl s, cs, v, g, p, _, h => by
    simp only [GC] at g
    obtain ⟨n, rfl, _⟩ := g
    have e : flatV v = [v] := by cases v <;> first | rfl | exact absurd rfl (h rfl _)
    rw [e] at p
    obtain ⟨v', h1, h2⟩ := p.2 0 _ rfl
    simp at h1; subst h1
    simp only [toSV, Conc, List.headD_cons]; exact h2
  | .arr n s, cs, v, g, p, h, _ => by
    obtain ⟨vs, rfl⟩ := h rfl
    have hl := g.len
    simp only [toSV, Conc]
    refine ⟨vs, rfl, ?_, p⟩
    have e1 : vs.length = cs.length := p.1.symm
    rw [e1, hl]; rfl
  | .st l, cs, v, g, p, h, _ => by
    obtain ⟨vs, rfl⟩ := h rfl
    simp only [GC] at g
    simp only [toSV, Conc]
    exact ⟨vs, rfl, conc_toSegs l g p⟩
theorem conc_toSegs {V : View} {ρ : Nat → Value} : ∀ (l : List Sh) {cs : List PV} {vs : List Value}, GCL l cs → PCells V cs vs → Cells V ρ (toSegs l cs) vs
  | [], cs, vs, g, p => by
    simp only [GCL] at g; subst g
    have : vs = [] := List.eq_nil_of_length_eq_zero (by rw [← p.1]; rfl)
    subst this
    simp only [toSegs, Cells]
  | s :: l, cs, vs, g, p => by
    simp only [GCL] at g
    obtain ⟨c, cs', rfl, g1, g2⟩ := g
    have hl := g1.len
    have p1 : PCells V c (vs.take c.length) := by
      have := p.split c.length |>.1
      simpa using this
    have p2 : PCells V cs' (vs.drop c.length) := by
      have := p.split c.length |>.2
      simpa using this
    have hvs : vs = vs.take c.length ++ vs.drop c.length := (List.take_append_drop _ _).symm
    have hlen : (vs.take c.length).length = s.w := by rw [← p1.1, hl]
    simp only [toSegs]
    rw [List.take_left' hl, List.drop_left' hl]
    rw [hvs]
    refine cells_append ?_ (conc_toSegs l g2 p2)
    cases s with
    | st m =>
      simp only [GC] at g1
      simp only [toSV, SV.segs]
      exact conc_toSegs m g1 p1
    | arr n s' =>
      have := conc_toSV (V := V) (ρ := ρ) (.arr n s') (v := .agg ⟨vs.take c.length⟩) g1 (by simpa [flatV] using p1) (fun _ => ⟨_, rfl⟩) (by simp [Sh.isAg])
      simp only [toSV] at this ⊢
      simp only [SV.segs, Cells]
      exact ⟨_, [], by simp [flatV], this, by simpa [flatV, SV.width, Sh.w] using hlen, fun v hv => p1.one v (by simpa [flatV] using hv), rfl⟩
    | int k =>
      obtain ⟨n, rfl, _⟩ := g1
      obtain ⟨v, h1, h2⟩ := p1.2 0 _ rfl
      have e : vs.take [PV.i k n].length = [v] := by
        match hx : vs.take [PV.i k n].length, h1, hlen with
        | [u], h1, _ => simp at h1; rw [h1]
      have ho := h2.one
      have fv : flatV v = [v] := by cases v <;> first | rfl | exact absurd ho (by simp [oneCell])
      rw [e]
      simp only [toSV, SV.segs, Cells, Conc, List.headD_cons]
      exact ⟨v, [], by rw [fv]; rfl, h2, by rw [fv]; rfl, by rw [fv]; simpa using ho, rfl⟩
    | bool =>
      obtain ⟨n, rfl⟩ := g1
      obtain ⟨v, h1, h2⟩ := p1.2 0 _ rfl
      have e : vs.take [PV.b n].length = [v] := by
        match hx : vs.take [PV.b n].length, h1, hlen with
        | [u], h1, _ => simp at h1; rw [h1]
      have ho := h2.one
      have fv : flatV v = [v] := by cases v <;> first | rfl | exact absurd ho (by simp [oneCell])
      rw [e]
      simp only [toSV, SV.segs, Cells, Conc, List.headD_cons]
      exact ⟨v, [], by rw [fv]; rfl, h2, by rw [fv]; rfl, by rw [fv]; simpa using ho, rfl⟩
    | str =>
      obtain ⟨n, rfl, _⟩ := g1
      obtain ⟨v, h1, h2⟩ := p1.2 0 _ rfl
      have e : vs.take [PV.s n].length = [v] := by
        match hx : vs.take [PV.s n].length, h1, hlen with
        | [u], h1, _ => simp at h1; rw [h1]
      have ho := h2.one
      have fv : flatV v = [v] := by cases v <;> first | rfl | exact absurd ho (by simp [oneCell])
      rw [e]
      simp only [toSV, SV.segs, Cells, Conc, List.headD_cons]
      exact ⟨v, [], by rw [fv]; rfl, h2, by rw [fv]; rfl, by rw [fv]; simpa using ho, rfl⟩
    | sl s' =>
      simp only [GC] at g1
      obtain ⟨n, rfl, _⟩ := g1
      obtain ⟨v, h1, h2⟩ := p1.2 0 _ rfl
      have e : vs.take [PV.sl false s'.w n].length = [v] := by
        match hx : vs.take [PV.sl false s'.w n].length, h1, hlen with
        | [u], h1, _ => simp at h1; rw [h1]
      have ho := h2.one
      have fv : flatV v = [v] := by cases v <;> first | rfl | exact absurd ho (by simp [oneCell])
      rw [e]
      simp only [toSV, SV.segs, Cells, Conc, List.headD_cons]
      exact ⟨v, [], by rw [fv]; rfl, h2, by rw [fv]; rfl, by rw [fv]; simpa using ho, rfl⟩
end
mutual
theorem toSV_closed : ∀ (s : Sh) (cs : List PV), (toSV s cs).closed = true
  | .int k, cs => rfl
  | .bool, cs => rfl
  | .str, cs => rfl
  | .sl s, cs => rfl
  | .arr n s, cs => rfl
  | .st l, cs => by simp only [toSV, SV.closed]; exact toSegs_closed l cs
theorem toSegs_closed : ∀ (l : List Sh) (cs : List PV), SV.closedL (toSegs l cs) = true
  | [], cs => rfl
  | s :: l, cs => by
    simp only [toSegs]
    have h2 := toSegs_closed l (cs.drop s.w)
    have app : ∀ (a b : List SV), SV.closedL a = true → SV.closedL b = true → SV.closedL (a ++ b) = true := fun a b ha hb => by
      induction a with
      | nil => exact hb
      | cons x a ih => simp only [SV.closedL, Bool.and_eq_true, List.cons_append] at ha ⊢; exact ⟨ha.1, ih ha.2⟩
    refine app _ _ ?_ h2
    cases s with
    | st m => simp only [toSV, SV.segs]; exact toSegs_closed m _
    | int k => rfl
    | bool => rfl
    | str => rfl
    | sl s => rfl
    | arr n s => rfl
end
theorem okWide_ag {P : Program} {w : World} {base : Nat} {t : TypeId} {v : Value} : ∀ {s : Sh}, shB P s t = true → Value.okWide P w .any base t v → (s.isAg = true → ∃ vs, v = .agg ⟨vs⟩) ∧ (s.isAg = false → ∀ vs, v ≠ .agg vs)
  | .int k, hs, h => by
    simp only [shB] at hs
    split at hs
    · rename_i k' hu
      obtain ⟨n, rfl⟩ := WideShapes.okWide_int hu h
      exact ⟨fun h => (by cases h), fun _ vs e => by cases e⟩
    · cases hs
  | .bool, hs, h => by
    simp only [shB] at hs
    split at hs
    · rename_i hu
      obtain ⟨n, rfl⟩ := WideShapes.okWide_bool hu h
      exact ⟨fun h => (by cases h), fun _ vs e => by cases e⟩
    · cases hs
  | .str, hs, h => by
    simp only [shB] at hs
    split at hs
    · rename_i hu
      obtain ⟨n, rfl⟩ := WideShapes.okWide_string hu h
      exact ⟨fun h => (by cases h), fun _ vs e => by cases e⟩
    · cases hs
  | .sl s, hs, h => by
    simp only [shB] at hs
    split at hs
    · rename_i e hu
      obtain ⟨a, b, c, rfl⟩ := WideShapes.okWide_slice hu h
      exact ⟨fun h => (by cases h), fun _ vs e => by cases e⟩
    · cases hs
  | .arr n s, hs, h => by
    simp only [shB] at hs
    split at hs
    · rename_i n' e hu
      simp only [Value.okWide, hu] at h
      obtain ⟨⟨xs⟩, rfl, _⟩ := h
      exact ⟨fun _ => ⟨_, rfl⟩, fun h => (by cases h)⟩
    · cases hs
  | .st l, hs, h => by
    simp only [shB] at hs
    split at hs
    · rename_i fs hu
      simp only [Value.okWide, hu] at h
      obtain ⟨⟨xs⟩, rfl, _⟩ := h
      exact ⟨fun _ => ⟨_, rfl⟩, fun h => (by cases h)⟩
    · cases hs
/-- an argument, as it reads -/
theorem arg_conc {H : Type} {enc : TypeId × Value → H} {P : Program} {w : World} {spare : Nat → Bool} {held : Bool} {base : Nat} {t : TypeId} {v : Value} {d : DataW H} {ps : List MemPlace} {s : Sh} (hs : shB P s t = true)
    (hv : Value.okWide P w .any base t v) (h : DataW.Trod enc P w 0 spare held t v d ps) : ∃ cs, GC s cs ∧ Conc (allOf w) (fun _ => undef) (toSV s cs) v := by
  obtain ⟨fuel, hf⟩ := h
  obtain ⟨cs, g, p⟩ := trod_GC s hs hf
  rw [flatV_cells] at p
  obtain ⟨h1, h2⟩ := okWide_ag hs hv
  exact ⟨cs, g, conc_toSV s g p h1 h2⟩
end Go.Proofs.Ytchaijijjjcdlaa.Fw
namespace Go.Proofs.Ytchaijijjjcdlaa.Fw
open Go.RowKit
/-! Arguments of the shapes that the laws have. -/
theorem flat_get {m : Nat} : ∀ {cc : List (List PV)} {i j : Nat}, (∀ c ∈ cc, c.length = m) → j < m → cc.flatten[i * m + j]? = (cc[i]?).bind (·[j]?)
  | [], i, j, _, _ => by simp
  | c :: cc, 0, j, h, hj => by
    have hc := h c (by simp)
    rw [List.flatten_cons, Nat.zero_mul, Nat.zero_add, List.getElem?_append_left (by omega)]; rfl
  | c :: cc, i + 1, j, h, hj => by
    have hc := h c (by simp)
    rw [List.flatten_cons, List.getElem?_append_right (by rw [Nat.add_mul]; omega)]
    rw [show (i + 1) * m + j - c.length = i * m + j from by rw [Nat.add_mul]; omega]
    rw [flat_get (fun c hc => h c (by simp [hc])) hj]; rfl
theorem arr_el {n : Nat} {s : Sh} {cs : List PV} (h : GC (.arr n s) cs) : cs.length = n * s.w ∧ ∀ i, i < n → ∃ c, GC s c ∧ ∀ j, j < s.w → cs[i * s.w + j]? = c[j]? := by
  refine ⟨h.len, fun i hi => ?_⟩
  simp only [GC] at h
  obtain ⟨cc, rfl, rfl, g⟩ := h
  refine ⟨cc[i], g _ (List.getElem_mem _), fun j hj => ?_⟩
  rw [flat_get (fun c hc => (g c hc).len) hj, List.getElem?_eq_getElem hi]; rfl
theorem u32_wf {n : Int} (h : (Lit.int .u32 n).wf = true) : 0 ≤ n ∧ n < 4294967296 := by
  simp [Lit.wf, IntKind.min, IntKind.max, IntKind.signed, IntKind.bits] at h; omega
theorem u64_wf {n : Int} (h : (Lit.int .u64 n).wf = true) : 0 ≤ n ∧ n < 18446744073709551616 := by
  simp [Lit.wf, IntKind.min, IntKind.max, IntKind.signed, IntKind.bits] at h; omega
theorem u8_wf {n : Int} (h : (Lit.int .u8 n).wf = true) : 0 ≤ n ∧ n < 256 := by
  simp [Lit.wf, IntKind.min, IntKind.max, IntKind.signed, IntKind.bits] at h; omega
theorem i64_wf {n : Int} (h : (Lit.int .i64 n).wf = true) : -9223372036854775808 ≤ n ∧ n < 9223372036854775808 := by
  simp [Lit.wf, IntKind.min, IntKind.max, IntKind.signed, IntKind.bits] at h; omega
theorem arrF_of {n : Nat} {cs : List PV} {f : Nat → PV} (hl : cs.length = n) (h : ∀ i, i < n → cs[i]? = some (f i)) : cs = arrF n f := by
  apply List.ext_getElem?
  intro i
  by_cases hi : i < n
  · rw [h i hi, arrF_get hi]
  · rw [List.getElem?_eq_none (by omega), List.getElem?_eq_none (by rw [arrF_length]; omega)]
theorem GC_vE {cs : List PV} (h : GC (.arr 8 (.int .u32)) cs) : ∃ a : Vc, cs = vE a ∧ ∀ i, i < 8 → a i < 4294967296 := by
  obtain ⟨hl, g⟩ := arr_el h
  have key : ∀ i, ∃ n : Nat, i < 8 → cs[i]? = some (.i .u32 n) ∧ n < 4294967296 := fun i => by
    by_cases hi : i < 8
    · obtain ⟨c, ⟨n, rfl, hw⟩, k⟩ := g i hi
      have := k 0 (by simp [Sh.w])
      simp only [Sh.w, Nat.mul_one, Nat.add_zero] at this
      have hr := u32_wf hw
      refine ⟨n.toNat, fun _ => ⟨?_, by omega⟩⟩
      rw [this, show ((n.toNat : Nat) : Int) = n from by omega]; rfl
    · exact ⟨0, fun h => absurd h hi⟩
  obtain ⟨a, ha⟩ := Classical.axiomOfChoice key
  exact ⟨a, arrF_of hl fun i hi => (ha i hi).1, fun i hi => (ha i hi).2⟩
theorem GC_wE {cs : List PV} (h : GC (.arr 8 .bool) cs) : ∃ a : Nat → Bool, cs = wE a := by
  obtain ⟨hl, g⟩ := arr_el h
  have key : ∀ i, ∃ n : Bool, i < 8 → cs[i]? = some (.b n) := fun i => by
    by_cases hi : i < 8
    · obtain ⟨c, ⟨n, rfl⟩, k⟩ := g i hi
      have := k 0 (by simp [Sh.w])
      simp only [Sh.w, Nat.mul_one, Nat.add_zero] at this
      exact ⟨n, fun _ => this⟩
    · exact ⟨false, fun h => absurd h hi⟩
  obtain ⟨a, ha⟩ := Classical.axiomOfChoice key
  exact ⟨a, arrF_of hl fun i hi => ha i hi⟩
theorem GC_tE {cs : List PV} (h : GC (.arr 8 (.arr 8 (.int .u32))) cs) : ∃ t : Nat → Vc, cs = tE t ∧ ∀ i, i < 8 → ∀ j, j < 8 → t i j < 4294967296 := by
  obtain ⟨hl, g⟩ := arr_el h
  have key : ∀ i, ∃ a : Vc, i < 8 → (∀ j, j < 8 → cs[i * 8 + j]? = some (.i .u32 (a j))) ∧ ∀ j, j < 8 → a j < 4294967296 := fun i => by
    by_cases hi : i < 8
    · obtain ⟨c, hc, k⟩ := g i hi
      obtain ⟨a, rfl, hb⟩ := GC_vE hc
      refine ⟨a, fun _ => ⟨fun j hj => ?_, hb⟩⟩
      have := k j hj
      simp only [Sh.w] at this
      rw [this]; exact arrF_get hj _
    · exact ⟨fun _ => 0, fun h => absurd h hi⟩
  obtain ⟨t, ht⟩ := Classical.axiomOfChoice key
  refine ⟨t, arrF_of hl fun i hi => ?_, fun i hi => (ht i hi).2⟩
  have := (ht (i / 8) (by omega)).1 (i % 8) (by omega)
  rw [show i / 8 * 8 + i % 8 = i from by omega] at this
  exact this
theorem GC_i64 {cs : List PV} (h : GC (.int .i64) cs) : ∃ n : Int, cs = [.i .i64 n] ∧ -9223372036854775808 ≤ n ∧ n < 9223372036854775808 := by
  obtain ⟨n, rfl, hw⟩ := h; exact ⟨n, rfl, i64_wf hw⟩
theorem GC_u64 {cs : List PV} (h : GC (.int .u64) cs) : ∃ n : Nat, cs = [.i .u64 n] ∧ n < 18446744073709551616 := by
  obtain ⟨n, rfl, hw⟩ := h
  have := u64_wf hw
  exact ⟨n.toNat, by rw [show ((n.toNat : Nat) : Int) = n from by omega], by omega⟩
theorem GC_bool {cs : List PV} (h : GC .bool cs) : ∃ n : Bool, cs = [.b n] := h
theorem GC_bytes {cs : List PV} (h : GC (.sl (.int .u8)) cs) : ∃ l : List UInt8, cs = [.sl false 1 (bytesE l)] ∧ l.length ≤ maxLen := by
  simp only [GC] at h
  obtain ⟨es, rfl, hl, g⟩ := h
  have key : ∀ es : List (List PV), (∀ c ∈ es, ∃ n, c = [PV.i .u8 n] ∧ (Lit.int .u8 n).wf = true) → ∃ l : List UInt8, es = bytesE l := fun es => by
    induction es with
    | nil => intro _; exact ⟨[], rfl⟩
    | cons c es ih =>
      intro h
      obtain ⟨n, rfl, hw⟩ := h c (by simp)
      obtain ⟨l, rfl⟩ := ih fun c hc => h c (by simp [hc])
      have hr := u8_wf hw
      refine ⟨UInt8.ofNat n.toNat :: l, ?_⟩
      simp only [bytesE, List.map_cons]
      rw [UInt8.toNat_ofNat', show n.toNat % 2 ^ 8 = n.toNat from Nat.mod_eq_of_lt (by omega), show ((n.toNat : Nat) : Int) = n from by omega]
  obtain ⟨l, rfl⟩ := key es g
  exact ⟨l, rfl, by simpa [bytesE] using hl⟩
theorem wrap_u64_mod (n : Int) : IntKind.u64.wrap n = n % 18446744073709551616 := by simp [IntKind.wrap, IntKind.signed, IntKind.bits]
theorem u64_idx (a : Int) {n : Nat} (h0 : 0 < n) (h : n < 4611686018427387904) : ∃ j : Nat, j < n ∧ IntKind.i64.wrap ((IntKind.u64.wrap a).tmod (IntKind.u64.wrap (n : Int))) = j := by
  rw [wrap_u64 (n := (n : Int)) (by omega), wrap_u64_mod]
  have h1 : 0 ≤ a % 18446744073709551616 := by omega
  rw [Int.tmod_eq_emod_of_nonneg h1]
  generalize a % 18446744073709551616 = m at *
  have h2 := Int.emod_nonneg m (b := (n : Int)) (by omega)
  have h3 := Int.emod_lt_of_pos m (b := (n : Int)) (by omega)
  refine ⟨(m % n).toNat, by omega, ?_⟩
  rw [wrap_i64 (by omega)]; omega
theorem GC_sl {s : Sh} {cs : List PV} (h : GC (.sl s) cs) : ∃ es, cs = [.sl false s.w es] ∧ es.length ≤ maxLen ∧ ∀ c ∈ es, GC s c := by
  simp only [GC] at h; exact h
end Go.Proofs.Ytchaijijjjcdlaa.Fw
namespace Go.Proofs.Ytchaijijjjcdlaa.Fw
open Go.RowKit Go.Proofs
theorem bsEq_lives : BsEq [[.sl false 1 [[.i .u8 97]]], [.sl true 0 []]] [[97], []] := ⟨rfl, fun k hk => by
  have : k = 0 ∨ k = 1 := by simp at hk; omega
  rcases this with rfl | rfl
  · exact ⟨false, 1, rfl, .inr rfl⟩
  · exact ⟨true, 0, rfl, .inl rfl⟩⟩
theorem livesC {h d} : FunOk Try.prog 5 [] h d (.pv (.b true)) [] := by
  refine fun_pure mixed fn5 (by simp) rfl rfl fun F => ?_
  (try simp only [brK_e, gdK_e, skK_e, gdA_e, skA_e, pkK_e]); simp (maxSteps := 10000000) (disch := omega) only [ir5, go_sem, ↓reduceIte, Nat.reduceEqDiff, Nat.reduceSub, Nat.reduceLeDiff, Nat.reduceAdd, Int.reduceEq, Int.reduceLT, Int.reduceLE]
  refine ⟨by simp, call_with (okPack (f := false) (z := 1) (L := [[97], []]) rfl rfl bsEq_lives (.inr rfl) (by decide) (by decide)) ?_⟩
  (try simp only [brK_e, gdK_e, skK_e, gdA_e, skA_e, pkK_e]); simp (maxSteps := 10000000) (disch := omega) only [go_sem, ↓reduceIte, Nat.reduceEqDiff, Nat.reduceSub, Nat.reduceLeDiff, Nat.reduceAdd, Int.reduceEq, Int.reduceLT, Int.reduceLE]
  have hp : packB [[97], []] = [1, 97, 0] := rfl
  rw [hp]
  refine call_with (FunOk.frz (n := 9) (sz := 1) (es := bytesE [1, 97, 0]) rfl (by simp [tops, tn]) rfl (okUnpack (f := false) (z := 1) (b := [1, 97, 0]) (most := 2) (h := fun _ => none) (.inr rfl) (by decide))) ?_
  have hu : unpackG [1, 97, 0] [] 2 = ([[97], []], 0) := by
    have := unpack_all [[97], []] 2 (by decide) (by decide)
    rw [hp] at this; exact this
  (try simp only [brK_e, gdK_e, skK_e, gdA_e, skA_e, pkK_e]); simp (maxSteps := 10000000) (disch := omega) only [hu, List.map_cons, List.map_nil, bE, List.getElem?_cons_zero, ld_sl, go_sem, ↓reduceIte, Nat.reduceEqDiff, Nat.reduceSub, Nat.reduceLeDiff, Nat.reduceAdd, Int.reduceEq, Int.reduceLT, Int.reduceLE]
end Go.Proofs.Ytchaijijjjcdlaa.Fw
namespace Go.Proofs.Ytchaijijjjcdlaa.Fw
open Go.RowKit Go.Proofs
theorem GC_bE {cs : List PV} (h : GC (.sl (.int .u8)) cs) : ∃ b : List UInt8, cs = bE b ∧ b.length ≤ maxLen := GC_bytes h
theorem els_of {α : Type} {f : α → List PV} {p : α → Prop} {s : Sh} (key : ∀ {cs}, GC s cs → ∃ x, cs = f x ∧ p x) : ∀ {es : List (List PV)}, (∀ c ∈ es, GC s c) → ∃ l : List α, es = l.map f ∧ ∀ x ∈ l, p x
  | [], _ => ⟨[], rfl, by simp⟩
  | c :: es, h => by
    obtain ⟨l, e, hp⟩ := els_of (es := es) key fun c hc => h c (List.mem_cons_of_mem _ hc)
    obtain ⟨x, e2, hx⟩ := key (h c List.mem_cons_self)
    exact ⟨x :: l, by rw [e, e2]; rfl, fun y hy => by
      rcases List.mem_cons.1 hy with hy | hy
      · rw [hy]; exact hx
      · exact hp y hy⟩
end Go.Proofs.Ytchaijijjjcdlaa.Fw
namespace Go.Proofs.Ytchaijijjjcdlaa.Fw
open Go.RowKit Go.Proofs
set_option maxHeartbeats 4000000 in
theorem lawApart (A B : List (List UInt8)) (hAL : A.length ≤ maxLen) (hAb : ∀ b ∈ A, b.length ≤ maxLen) (hBL : B.length ≤ maxLen) (hBb : ∀ b ∈ B, b.length ≤ maxLen) {h d} :
    FunOk Try.prog 4 [.pv (.sl false 1 (A.map bE)), .pv (.sl false 1 (B.map bE))] h d (.pv (.b true)) [] := by
  refine fun_pure mixed fn4 (by simp) rfl rfl fun F => ?_
  (try simp only [brK_e, gdK_e, skK_e, gdA_e, skA_e, pkK_e]); simp (maxSteps := 10000000) (disch := omega) only [ir4, List.length_map, go_sem, ↓reduceIte, Nat.reduceEqDiff, Nat.reduceSub, Nat.reduceLeDiff, Nat.reduceAdd, Int.reduceEq, Int.reduceLT, Int.reduceLE]
  refine call_with livesC ?_
  (try simp only [brK_e, gdK_e, skK_e, gdA_e, skA_e, pkK_e]); simp (maxSteps := 10000000) (disch := omega) only [go_sem, ↓reduceIte, Nat.reduceEqDiff, Nat.reduceSub, Nat.reduceLeDiff, Nat.reduceAdd, Int.reduceEq, Int.reduceLT, Int.reduceLE]
  refine call_with (okFew (f := false) (z := 1) (L := A) rfl rfl (bsEq_map A) (.inr rfl) hAL hAb) ?_
  by_cases hf : fewT A ≤ 3000
  case neg =>
    have e : fewB A = false := by simp [fewB]; omega
    (try simp only [brK_e, gdK_e, skK_e, gdA_e, skA_e, pkK_e]); simp (maxSteps := 10000000) (disch := omega) only [e, go_sem, ↓reduceIte, Nat.reduceEqDiff, Nat.reduceSub, Nat.reduceLeDiff, Nat.reduceAdd, Int.reduceEq, Int.reduceLT, Int.reduceLE]
    refine call_with livesC ?_
    (try simp only [brK_e, gdK_e, skK_e, gdA_e, skA_e, pkK_e]); simp (maxSteps := 10000000) (disch := omega) only [go_sem, ↓reduceIte, Nat.reduceEqDiff, Nat.reduceSub, Nat.reduceLeDiff, Nat.reduceAdd, Int.reduceEq, Int.reduceLT, Int.reduceLE]
  have eA : fewB A = true := by simp [fewB]; omega
  (try simp only [brK_e, gdK_e, skK_e, gdA_e, skA_e, pkK_e]); simp (maxSteps := 10000000) (disch := omega) only [eA, go_sem, ↓reduceIte, Nat.reduceEqDiff, Nat.reduceSub, Nat.reduceLeDiff, Nat.reduceAdd, Int.reduceEq, Int.reduceLT, Int.reduceLE]
  refine call_with (okFew (f := false) (z := 1) (L := B) rfl rfl (bsEq_map B) (.inr rfl) hBL hBb) ?_
  by_cases hg : fewT B ≤ 3000
  case neg =>
    have e : fewB B = false := by simp [fewB]; omega
    (try simp only [brK_e, gdK_e, skK_e, gdA_e, skA_e, pkK_e]); simp (maxSteps := 10000000) (disch := omega) only [e, go_sem, ↓reduceIte, Nat.reduceEqDiff, Nat.reduceSub, Nat.reduceLeDiff, Nat.reduceAdd, Int.reduceEq, Int.reduceLT, Int.reduceLE]
    refine call_with livesC ?_
    (try simp only [brK_e, gdK_e, skK_e, gdA_e, skA_e, pkK_e]); simp (maxSteps := 10000000) (disch := omega) only [go_sem, ↓reduceIte, Nat.reduceEqDiff, Nat.reduceSub, Nat.reduceLeDiff, Nat.reduceAdd, Int.reduceEq, Int.reduceLT, Int.reduceLE]
  have eB : fewB B = true := by simp [fewB]; omega
  have hlA := few_len (L := A)
  have hlB := few_len (L := B)
  have haA : ∀ b ∈ A, b.length ≤ 65535 := fun b hb => by have := few_all hf b hb; omega
  have haB : ∀ b ∈ B, b.length ≤ 65535 := fun b hb => by have := few_all hg b hb; omega
  have hpA := few_pack hf
  have hpB := few_pack hg
  have hqA := packB_len A
  have hqB := packB_len B
  have hinj := packB_inj haA haB
  (try simp only [brK_e, gdK_e, skK_e, gdA_e, skA_e, pkK_e]); simp (maxSteps := 10000000) (disch := omega) only [eB, go_sem, ↓reduceIte, Nat.reduceEqDiff, Nat.reduceSub, Nat.reduceLeDiff, Nat.reduceAdd, Int.reduceEq, Int.reduceLT, Int.reduceLE]
  refine call_with (okPack (f := false) (z := 1) (L := A) rfl rfl (bsEq_map A) (.inr rfl) (by omega) haA) ?_
  (try simp only [brK_e, gdK_e, skK_e, gdA_e, skA_e, pkK_e]); simp (maxSteps := 10000000) (disch := omega) only [go_sem, ↓reduceIte, Nat.reduceEqDiff, Nat.reduceSub, Nat.reduceLeDiff, Nat.reduceAdd, Int.reduceEq, Int.reduceLT, Int.reduceLE]
  refine call_with (okPack (f := false) (z := 1) (L := B) rfl rfl (bsEq_map B) (.inr rfl) (by omega) haB) ?_
  (try simp only [brK_e, gdK_e, skK_e, gdA_e, skA_e, pkK_e]); simp (maxSteps := 10000000) (disch := omega) only [go_sem, ↓reduceIte, Nat.reduceEqDiff, Nat.reduceSub, Nat.reduceLeDiff, Nat.reduceAdd, Int.reduceEq, Int.reduceLT, Int.reduceLE]
  refine call_with (okTexts (f := false) (z := 1) (L := A) rfl rfl (bsEq_map A) (.inr rfl) (by omega)) ?_
  (try simp only [brK_e, gdK_e, skK_e, gdA_e, skA_e, pkK_e]); simp (maxSteps := 10000000) (disch := omega) only [go_sem, ↓reduceIte, Nat.reduceEqDiff, Nat.reduceSub, Nat.reduceLeDiff, Nat.reduceAdd, Int.reduceEq, Int.reduceLT, Int.reduceLE]
  refine call_with (okTexts (f := false) (z := 1) (L := B) rfl rfl (bsEq_map B) (.inr rfl) (by omega)) ?_
  (try simp only [brK_e, gdK_e, skK_e, gdA_e, skA_e, pkK_e]); simp (maxSteps := 10000000) (disch := omega) only [go_sem, ↓reduceIte, Nat.reduceEqDiff, Nat.reduceSub, Nat.reduceLeDiff, Nat.reduceAdd, Int.reduceEq, Int.reduceLT, Int.reduceLE]
  refine call_with (okSameS (L := A) (M := B) rfl rfl (by omega) (by omega)) ?_
  have hd : (decide (packB A = packB B) = decide (A = B)) = True := by
    by_cases e : A = B
    · subst e; simp
    · have : ¬ packB A = packB B := fun h => e (hinj.1 h)
      simp [e, this]
  have hAp : ∀ b ∈ A ++ B, b.length ≤ 65535 := fun b hb => (List.mem_append.1 hb).elim (haA b) (haB b)
  have hu := unpack_all (A ++ B) (((A ++ B).length : Nat) : Int) hAp (by omega)
  rw [packB_app] at hu
  have hbe : bytesE (packB A) ++ bytesE (packB B) = bytesE (packB A ++ packB B) := by simp [bytesE]
  (try simp only [brK_e, gdK_e, skK_e, gdA_e, skA_e, pkK_e]); simp (maxSteps := 10000000) (disch := omega) only [hd, bytesE_length, List.length_map, hbe, go_sem, ↓reduceIte, Nat.reduceEqDiff, Nat.reduceSub, Nat.reduceLeDiff, Nat.reduceAdd, Int.reduceEq, Int.reduceLT, Int.reduceLE]
  have hcast : (((A ++ B).length : Nat) : Int) = (A.length : Int) + (B.length : Int) := by simp
  rw [hcast] at hu
  have hABl : (A ++ B).length ≤ 300000 := by simp; omega
  have hmap : A.map xE ++ B.map xE = (A ++ B).map xE := by simp
  refine call_with (FunOk.frz (n := 58) (sz := 1) (es := bytesE (packB A ++ packB B)) rfl (by simp [tops, tn]) rfl (okUnpack (f := false) (z := 1) (b := packB A ++ packB B) (most := (A.length : Int) + (B.length : Int)) (h := fun _ => none) (.inr rfl) (by simp; omega))) ?_
  (try simp only [brK_e, gdK_e, skK_e, gdA_e, skA_e, pkK_e]); simp (maxSteps := 10000000) (disch := omega) only [hu, go_sem, ↓reduceIte, Nat.reduceEqDiff, Nat.reduceSub, Nat.reduceLeDiff, Nat.reduceAdd, Int.reduceEq, Int.reduceLT, Int.reduceLE]
  refine call_with (okTexts (f := false) (z := 1) (L := A ++ B) rfl rfl (bsEq_map (A ++ B)) (.inr rfl) hABl) ?_
  (try simp only [brK_e, gdK_e, skK_e, gdA_e, skA_e, pkK_e]); simp (maxSteps := 10000000) (disch := omega) only [go_sem, ↓reduceIte, Nat.reduceEqDiff, Nat.reduceSub, Nat.reduceLeDiff, Nat.reduceAdd, Int.reduceEq, Int.reduceLT, Int.reduceLE]
  refine call_with (okTexts (f := false) (z := 1) (L := A) rfl rfl (bsEq_map A) (.inr rfl) (by omega)) ?_
  (try simp only [brK_e, gdK_e, skK_e, gdA_e, skA_e, pkK_e]); simp (maxSteps := 10000000) (disch := omega) only [go_sem, ↓reduceIte, Nat.reduceEqDiff, Nat.reduceSub, Nat.reduceLeDiff, Nat.reduceAdd, Int.reduceEq, Int.reduceLT, Int.reduceLE]
  refine call_with (okTexts (f := false) (z := 1) (L := B) rfl rfl (bsEq_map B) (.inr rfl) (by omega)) ?_
  (try simp only [brK_e, gdK_e, skK_e, gdA_e, skA_e, pkK_e]); simp (maxSteps := 10000000) (disch := omega) only [List.length_map, hmap, go_sem, ↓reduceIte, Nat.reduceEqDiff, Nat.reduceSub, Nat.reduceLeDiff, Nat.reduceAdd, Int.reduceEq, Int.reduceLT, Int.reduceLE]
  refine call_with (okSameS (L := A ++ B) (M := A ++ B) rfl rfl hABl hABl) ?_
  (try simp only [brK_e, gdK_e, skK_e, gdA_e, skA_e, pkK_e]); simp (maxSteps := 10000000) (disch := omega) only [go_sem, ↓reduceIte, Nat.reduceEqDiff, Nat.reduceSub, Nat.reduceLeDiff, Nat.reduceAdd, Int.reduceEq, Int.reduceLT, Int.reduceLE]
theorem holdsCodecApart {c0 c1 : List PV} (g0 : GC (.sl (.sl (.int .u8))) c0) (g1 : GC (.sl (.sl (.int .u8))) c1) {h d} :
    FunOk Try.prog 4 [toSV (.sl (.sl (.int .u8))) c0, toSV (.sl (.sl (.int .u8))) c1] h d (.pv (.b true)) [] := by
  obtain ⟨es, rfl, h1, g0⟩ := GC_sl g0
  obtain ⟨A, rfl, hA⟩ := els_of (f := bE) GC_bE g0
  obtain ⟨es, rfl, h2, g1⟩ := GC_sl g1
  obtain ⟨B, rfl, hB⟩ := els_of (f := bE) GC_bE g1
  exact lawApart A B (by simpa using h1) hA (by simpa using h2) hB
end Go.Proofs.Ytchaijijjjcdlaa.Fw
