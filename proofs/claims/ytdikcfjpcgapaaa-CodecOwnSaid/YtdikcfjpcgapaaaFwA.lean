/- A small language for code of the model, what its operations mean, and how code is brought into it. -/
import Derived.Orders
import Derived.Laws.Entries
import GoSem.Core.Layout
import Derived.Below
import GoSem.Dispatch
import Derived.Laws.BytesArg
import Derived.Lib.ConvBytes
import Derived.Lib.Strings
import Derived.Laws.Sem
import Derived.ChangeKeysEq
import Derived.Laws.MakeOwn
import Derived.Laws.AppendOwn
import Derived.Lib.AppendZerosOnto
import Derived.Laws.RangeString
import Derived.Lib.OthersKept
import Derived.Attr
set_option linter.unusedVariables false
set_option linter.unusedSimpArgs false
set_option linter.unusedSectionVars false
namespace Go.Proofs.Ytdikcfjpcgapaaa.Fw
inductive Ty where
 | int (k : IntKind) | bool | str | arr (n : Nat) (e : Ty) | st (fs : List Ty)
 deriving Inhabited
inductive PV where
 | i (k : IntKind) (n : Int)
 | b (x : Bool)
 | s (l : List UInt8)
 | v (x : Value)
 | sl (full : Bool) (sz : Nat) (es : List (List PV))
 deriving Inhabited
inductive SV where
 | pv (x : PV)
 | vec (n : Nat) (cs : List PV)
 | agg (l : List SV)
 | tup (l : List SV)
 | p (n off : Nat)
 | ps (n e : Nat)
 | pr (n sz i off : Nat)
 | pi (sz : Nat) (es : List (List PV)) (i off : Nat)
 | os (n : Nat)
 | nt (n i : Nat)
 | np (n i k : Nat)
 | ov (n sz lo hi : Nat)
 | fn (f : Fn) (cap : List SV)
 | dead
 deriving Inhabited
inductive Blk where
 | var (x : SV)
 | row (sz : Nat) (es : List (List PV))
 | rowc (sz : Nat) (es : List (List PV)) (c : Nat)
 | it (l : List UInt8) (pos : Nat)
 | nest (es : List (List UInt8))
 deriving Inhabited
inductive HU where
 | new (n : Nat) (b : Blk)
 | upd (n : Nat) (b : Blk)
 | del (n : Nat)
 | frz (n : Nat) (x : PV)
 | set (t : Nat → SV) (h : Nat → Option Blk)
def lk {α : Type} (d : α) (k : Nat) : List (Nat × α) → α
 | [] => d
 | (j, x) :: l => if k = j then x else lk d k l
mutual
def SV.kill (n : Nat) : SV → SV
 | .p m o => if n = m then .dead else .p m o
 | .ps m o => if n = m then .dead else .ps m o
 | .pr m s i o => if n = m then .dead else .pr m s i o
 | .os m => if n = m then .dead else .os m
 | .nt m i_ => if n = m then .dead else .nt m i_
 | .np m i_ k_ => if n = m then .dead else .np m i_ k_
 | .ov m z a b => if n = m then .dead else .ov m z a b
 | .agg l => .agg (SV.killL n l)
 | .tup l => .tup (SV.killL n l)
 | .fn f l => .fn f (SV.killL n l)
 | x => x
def SV.killL (n : Nat) : List SV → List SV
 | [] => []
 | x :: l => SV.kill n x :: SV.killL n l
end
mutual
def SV.frz (n : Nat) (v : PV) : SV → SV
 | .os m => if n = m then .pv v else .os m
 | .agg l => .agg (SV.frzL n v l)
 | .tup l => .tup (SV.frzL n v l)
 | .fn f l => .fn f (SV.frzL n v l)
 | x => x
def SV.frzL (n : Nat) (v : PV) : List SV → List SV
 | [] => []
 | x :: l => SV.frz n v x :: SV.frzL n v l
end
def Blk.frz (n : Nat) (v : PV) : Blk → Blk
 | .var x => .var (x.frz n v)
 | b => b
def Blk.kill (n : Nat) : Blk → Blk
 | .var x => .var (x.kill n)
 | b => b
structure FS where
 t : Nat → SV
 h : Nat → Option Blk
def mk (t : List (Nat × SV)) (h : List (Nat × Option Blk)) : FS := ⟨fun n => lk .dead n t, fun n => lk none n h⟩
def Gh (n : Nat) : List (Nat × SV) → List (Nat × SV)
 | [] => []
 | (j, x) :: l => (j, x.kill n) :: Gh n l
def Oy (n : Nat) (v : PV) : List (Nat × SV) → List (Nat × SV)
 | [] => []
 | (j, x) :: l => (j, x.frz n v) :: Oy n v l
def Hb (n : Nat) (v : PV) : List (Nat × Option Blk) → List (Nat × Option Blk)
 | [] => []
 | (j, some x) :: l => (if j = n then (j, none) else (j, some (x.frz n v))) :: Hb n v l
 | (j, none) :: l => (j, none) :: Hb n v l
def D7 (n : Nat) : List (Nat × Option Blk) → List (Nat × Option Blk)
 | [] => []
 | (j, some x) :: l => (j, some (x.kill n)) :: D7 n l
 | (j, none) :: l => (j, none) :: D7 n l
def D2 : Nat := 1000000
inductive Opd where
 | t (n : Nat)
 | c (x : SV)
def FS.ev (s : FS) : Opd → SV
 | .t n => s.t n
 | .c x => x
def FS.set (s : FS) (d : Nat) (x : SV) : FS := ⟨fun n => if n = d then x else s.t n, s.h⟩
def FS.seth (s : FS) (m : Nat) (b : Option Blk) : FS := ⟨s.t, fun n => if n = m then b else s.h n⟩
def FS.kill (s : FS) (m : Nat) : FS := ⟨fun n => (s.t n).kill m, fun n => (s.h n).map (Blk.kill m)⟩
def FS.frz (s : FS) (n : Nat) (v : PV) : FS := ⟨fun m => (s.t m).frz n v, fun m => if m = n then none else (s.h m).map (Blk.frz n v)⟩
def FS.hup (s : FS) : List HU → FS
 | [] => s
 | .new n b :: u => ((s.kill n).seth n (some b)).hup u
 | .upd n b :: u => (s.seth n (some b)).hup u
 | .del n :: u => (s.seth n none).hup u
 | .frz n v :: u => (s.frz n v).hup u
 | .set t h :: u => FS.hup ⟨t, h⟩ u
def FS.apply (s : FS) (d : Option Nat) (x : SV) (u : List HU) : FS :=
 match d with
 | some d => (s.hup u).set d x
 | none => s.hup u
theorem Ri (t h d x) : (mk t h).set d x = mk ((d, x) :: t) h := by
 simp only [FS.set, mk, lk]
theorem H6 (t h d x) : (mk t h).seth d x = mk t ((d, x) :: h) := by
 simp only [FS.seth, mk, lk]
theorem P6 (m n) : ∀ t : List (Nat × SV), lk .dead n (Gh m t) = (lk .dead n t).kill m
 | [] => by simp [Gh, lk, SV.kill]
 | (j, x) :: l => by
   simp only [Gh, lk, P6 m n l];split <;> rfl
theorem Ly (m n) : ∀ t : List (Nat × Option Blk), lk none n (D7 m t) = (lk none n t).map (Blk.kill m)
 | [] => by simp [D7, lk]
 | (j, some x) :: l => by
   simp only [D7, lk, Ly m n l];split <;> rfl
 | (j, none) :: l => by
   simp only [D7, lk, Ly m n l];split <;> rfl
theorem Te (m v n) : ∀ t : List (Nat × SV), lk .dead n (Oy m v t) = (lk .dead n t).frz m v
 | [] => by simp [Oy, lk, SV.frz]
 | (j, x) :: l => by
   simp only [Oy, lk, Te m v n l];split <;> rfl
theorem Kr (m v n) : ∀ t : List (Nat × Option Blk), lk none n (Hb m v t) = if n = m then none else (lk none n t).map (Blk.frz m v)
 | [] => by simp [Hb, lk]
 | (j, some x) :: l => by
   by_cases hj : j = m
   · by_cases hn : n = j
     · subst hj; subst hn; simp [Hb, lk]
     · subst hj; simp [Hb, lk, hn, Kr j v n l]
   · by_cases hn : n = j
     · subst hn; simp [Hb, lk, hj]
     · simp [Hb, lk, hj, hn, Kr m v n l]
 | (j, none) :: l => by
   simp only [Hb, lk, Kr m v n l];split <;> simp
theorem Xt (t h m v) : (mk t h).frz m v = mk (Oy m v t) (Hb m v h) := by
 simp only [FS.frz, mk, Te, Kr]
theorem Ks (t h m) : (mk t h).kill m = mk (Gh m t) (D7 m h) := by
 simp only [FS.kill, mk, P6, Ly]
end Go.Proofs.Ytdikcfjpcgapaaa.Fw
namespace Go.Proofs.Ytdikcfjpcgapaaa.Fw
inductive K1 where
 | int (k : IntKind) | bool | str | other
 deriving DecidableEq
def PV.kind : PV → K1
 | .i k _ => .int k
 | .b _ => .bool
 | .s _ => .str
 | _ => .other
def Ck (ks : List K1) (cs : List PV) : Prop := cs.map PV.kind = ks
open Classical in
noncomputable def peq (a b : List PV) : Bool := decide (a = b)
def Ik (a b : Option (List PV)) : Option (List PV) := match a, b with
 | some a, some b => some (a ++ b)
 | _, _ => none
mutual
def SV.cells? : SV → Option (List PV)
 | .pv x => some [x]
 | .vec _ cs => some cs
 | .agg l => SV.cellsL? l
 | _ => none
def SV.cellsL? : List SV → Option (List PV)
 | [] => some []
 | x :: l => Ik (SV.cells? x) (SV.cellsL? l)
end
mutual
def SV.width : SV → Nat
 | .vec n _ => n
 | .agg l => SV.widthL l
 | _ => 1
def SV.widthL : List SV → Nat
 | [] => 0
 | x :: l => SV.width x + SV.widthL l
end
def SV.isAg : SV → Bool
 | .vec _ _ => true
 | .agg _ => true
 | _ => false
def nth : List SV → Nat → Option SV
 | [], _ => none
 | x :: l, k => if k = 0 then some x else nth l (k - 1)
def SV.segs : SV → List SV
 | .agg l => l
 | x => [x]
def I5 : List SV → List Nat
 | [] => []
 | x :: l => x.width :: I5 l
def Zb (sz : Nat) : List SV → Prop
 | [] => True
 | x :: l => x.width = sz ∧ Zb sz l
def Lh : List SV → List SV
 | [] => []
 | x :: l => x.segs ++ Lh l
def Vm : List SV → Nat → Nat → Option (List SV)
 | [], off, size => if off = 0 ∧ size = 0 then some [] else none
 | x :: l, off, size =>
   if off = 0 then
    if size = 0 then some []
    else if x.width ≤ size then (Vm l 0 (size - x.width)).map (x :: ·) else none
   else if x.width ≤ off then Vm l (off - x.width) size else none
def spl : List SV → Nat → Nat → List SV → Option (List SV)
 | [], off, size, ys => if off = 0 ∧ size = 0 then some ys else none
 | x :: l, off, size, ys =>
   if off = 0 then
    if size = 0 then some (ys ++ x :: l)
    else if x.width ≤ size then spl l 0 (size - x.width) ys else none
   else if x.width ≤ off then (spl l (off - x.width) size ys).map (x :: ·) else none
def Nh (ag : Bool) : List SV → Option SV
 | [.vec n cs] => if ag then some (.vec n cs) else none
 | [.agg l] => if ag then some (.agg [.agg l]) else none
 | [x] => if ag then some (.agg [x]) else some x
 | l => if ag then some (.agg l) else none
mutual
def SV.ok : SV → Prop
 | .pv _ => True
 | .vec m cs => cs.length = m
 | .agg l => SV.okL l
 | _ => False
def SV.okL : List SV → Prop
 | [] => True
 | x :: l => x.ok ∧ SV.okL l
end
mutual
def SV.flatB : SV → Bool
 | .dead => false
 | .tup _ => false
 | .agg l => SV.flatBL l
 | _ => true
def SV.flatBL : List SV → Bool
 | [] => true
 | x :: l => x.flatB && SV.flatBL l
end
def SV.form (ag : Bool) (n : Nat) : SV → Prop
 | .pv _ => ag = false ∧ n = 1
 | .vec m _ => ag = true ∧ m = n
 | .agg l => ag = true ∧ SV.widthL l = n ∧ SV.okL l
 | _ => False
def splice (cs : List PV) (off : Nat) (ys : List PV) : List PV := cs.take off ++ ys ++ cs.drop (off + ys.length)
abbrev KK := SV → List HU → Prop
def Zh (cs : List PV) (off size : Nat) (ag : Bool) : SV := match ag with
 | true => .vec size ((cs.drop off).take size)
 | false => .pv (cs.getD off (.b false))
def LoadK (c : Option (List PV)) (off size : Nat) (ag : Bool) (K : KK) : Prop := match c with
 | some cs => off + size ≤ cs.length ∧ (ag = true ∨ size = 1) ∧ K (Zh cs off size ag) []
 | none => False
theorem LoadK.old {c : Option (List PV)} {off size : Nat} {ag : Bool} {K : KK} (h : LoadK c off size ag K) :
 ∃ x cs, c = some cs ∧ off + size ≤ cs.length ∧ x.cells? = some ((cs.drop off).take size) ∧ x.form ag size ∧ K x [] := by
 cases c with
 | none => exact h.elim
 | some cs =>
   obtain ⟨h1, h2, h3⟩ := h;refine ⟨Zh cs off size ag, cs, rfl, h1, ?_, ?_, h3⟩
   · cases ag with
     | true => simp [Zh, SV.cells?]
     | false =>
       have h4 : size = 1 := by simpa using h2
       subst h4;have hlt : off < cs.length := by omega
       have h5 : (cs.drop off).take 1 = [cs[off]] := by rw [List.drop_eq_getElem_cons hlt]; rfl
       rw [h5];simp [Zh, SV.cells?, List.getD_eq_getElem?_getD, hlt]
   · cases ag with
     | true => simp [Zh, SV.form]
     | false =>
       have h4 : size = 1 := by simpa using h2
       simp [Zh, SV.form, h4]
def Ad (l : List UInt8) : List (List PV) := l.map fun c => [.i .u8 c.toNat]
def Mx (es : List (List PV)) (K : KK) : Prop := ∃ l, es = Ad l ∧ K (.pv (.s l)) []
inductive Kd where
 | mv | pick
 | new (z : SV) | box
 | bld (ns : List Nat) | bldV (n sz : Nat) | bsl (sz : Nat)
 | ld (size : Nat) (ag : Bool) | sto (size : Nat)
 | bin (op : BinOp) | binB (op : BinOp) | eqv (neg : Bool) (ks : List K1) | un (op : UnOp)
 | cvI (k : IntKind) | cvS | s2b | b2s | b2b
 | mks (zero : List PV) (bytes : Nat)
 | slc (sz : Nat) (lo hi mx : Bool) | sls (lo hi : Bool)
 | fa (off : Nat) | iaS (sz : Nat) | iaA (len stride : Nat) | iaC (off : Nat)
 | fld (off size : Nat) (ag : Bool) | ixA (len stride : Nat) (ag : Bool) | ixS
 | ext (k : Nat)
 | len | lenS | app (sz bytes : Nat) | mx | mn
 | mkf (fn : Fn) | nilc
 | eqn (neg : Bool) | cap | cpy (sz : Nat) | apz (sz bytes : Nat) (zero : List PV) | slv (sz : Nat) (lo hi : Bool) | slx (sz : Nat) | clr (sz : Nat) (zero : List PV) | rgs | nxs | r2s
 | call (f : Nat) | callv | yv
def D8 (b : Bool) (dflt : Int) (l : List SV) : Option (Int × List SV) :=
 match b, l with
 | false, l => some (dflt, l)
 | true, .pv (.i _ n) :: l => some (n, l)
 | _, _ => none
def Cy (o : Option Blk) : Option (List (List PV)) := match o with
 | some (.row _ es) => some es
 | _ => none
def Kw (o : Option Blk) (n : Nat) : Option (List PV × List HU) := match o with
 | some (.row sz es) => some ([.sl false sz es], [.del n])
 | _ => none
def Jn (a : Option (List PV × List HU)) (b : Option (List (List PV) × List HU)) : Option (List (List PV) × List HU) := match a, b with
 | some (a, u), some (b, v) => some (a :: b, u ++ v)
 | _, _ => none
def Lm (o : Option Blk) : Nat := match o with
 | some (.row sz _) => sz
 | _ => 0
def Ec (h : Nat → Option Blk) : SV → Nat
 | .pv (.sl _ sz _) => sz
 | .pv (.s _) => 1
 | .os n => Lm (h n)
 | _ => 0
def Ba (h : Nat → Option Blk) : SV → Option (List (List PV))
 | .pv (.sl _ _ es) => some es
 | .pv (.s l) => some (Ad l)
 | .os n => Cy (h n)
 | _ => none
def M5 (h : Nat → Option Blk) : SV → Option (List PV × List HU)
 | .os n => Kw (h n) n
 | x => (x.cells?).map fun cs => (cs, [])
def Cs (h : Nat → Option Blk) : List SV → Option (List (List PV) × List HU)
 | [] => some ([], [])
 | x :: l => Jn (M5 h x) (Cs h l)
def Hc (op : BinOp) (k k' : IntKind) (a b : Int) (K : KK) : Prop :=
 match op with
 | .add => k = k' ∧ K (.pv (.i k (k.wrap (a + b)))) []
 | .sub => k = k' ∧ K (.pv (.i k (k.wrap (a - b)))) []
 | .mul => k = k' ∧ K (.pv (.i k (k.wrap (a * b)))) []
 | .quo => k = k' ∧ b ≠ 0 ∧ K (.pv (.i k (k.wrap (a.tdiv b)))) []
 | .rem => k = k' ∧ b ≠ 0 ∧ K (.pv (.i k (a.tmod b))) []
 | .shl => 0 ≤ b ∧ K (.pv (.i k (k.wrap (a * 2 ^ (min b.toNat k.bits))))) []
 | .shr => 0 ≤ b ∧ K (.pv (.i k (a.fdiv (2 ^ (min b.toNat k.bits))))) []
 | .and => k = k' ∧ K (.pv (.i k (bits .and k a b))) []
 | .or => k = k' ∧ K (.pv (.i k (bits .or k a b))) []
 | .xor => k = k' ∧ K (.pv (.i k (bits .xor k a b))) []
 | .andNot => k = k' ∧ K (.pv (.i k (bits .andNot k a b))) []
 | .eql => k = k' ∧ K (.pv (.b (decide (a = b)))) []
 | .neq => k = k' ∧ K (.pv (.b (!decide (a = b)))) []
 | .lss => k = k' ∧ K (.pv (.b (decide (a < b)))) []
 | .leq => k = k' ∧ K (.pv (.b (decide (a ≤ b)))) []
 | .gtr => k = k' ∧ K (.pv (.b (decide (b < a)))) []
 | .geq => k = k' ∧ K (.pv (.b (decide (b ≤ a)))) []
def Qw (op : BinOp) (a b : List UInt8) (K : KK) : Prop :=
 match op with
 | .add => a.length + b.length ≤ 9223372036854775807 ∧ K (.pv (.s (a ++ b))) []
 | .eql => K (.pv (.b (decide (a = b)))) []
 | .neq => K (.pv (.b (!decide (a = b)))) []
 | .lss => K (.pv (.b (Op.bytesLess a b))) []
 | .leq => K (.pv (.b (Op.bytesLess a b || decide (a = b)))) []
 | .gtr => K (.pv (.b (!(Op.bytesLess a b || decide (a = b))))) []
 | .geq => K (.pv (.b (!Op.bytesLess a b))) []
 | _ => False
def binB (op : BinOp) (a b : Bool) (K : KK) : Prop :=
 match op with
 | .eql => K (.pv (.b (decide (a = b)))) []
 | .neq => K (.pv (.b (!decide (a = b)))) []
 | _ => False
def Gp (op : BinOp) : SV → SV → KK → Prop
 | .pv (.i k a), .pv (.i k' b), K => Hc op k k' a b K
 | .pv (.s a), .pv (.s b), K => Qw op a b K
 | _, _, _ => False
def K9 (op : UnOp) : SV → KK → Prop
 | .pv (.b x), K => match op with
   | .not => K (.pv (.b !x)) []
   | _ => False
 | .pv (.i k n), K => match op with
   | .neg => K (.pv (.i k (k.wrap (0 - n)))) []
   | _ => False
 | _, _ => False
def Eh : SV → SV → SV → KK → Prop
 | .pv (.b true), x, _, K => K x []
 | .pv (.b false), _, y, K => K y []
 | _, _, _, _ => False
def Ro (o : Option (List SV)) (ag : Bool) (c : Option (List PV)) (off size : Nat) (K : KK) : Prop :=
 match o.bind (Nh ag) with
 | some v => K v []
 | none => LoadK c off size ag K
def Hg (x : SV) (off size : Nat) (ag : Bool) (K : KK) : Prop := Ro (Vm x.segs off size) ag x.cells? off size K
def ldV (o : Option Blk) (off size : Nat) (ag : Bool) (K : KK) : Prop := match o with
 | some (.var x) => Hg x off size ag K
 | _ => False
def ldS (o : Option Blk) (off size : Nat) (ag : Bool) (K : KK) : Prop := match o with
 | some (.var x) => LoadK x.cells? off size ag K
 | _ => False
def ldR (o : Option Blk) (sz i off size : Nat) (ag : Bool) (K : KK) : Prop := match o with
 | some (.row sz' es) => sz = sz' ∧ LoadK es[i]? off size ag K
 | _ => False
def T6 (o : Option (List UInt8)) (k : Nat) (K : KK) : Prop := match o with
 | some l => ∃ b, l[k]? = some b ∧ K (.pv (.i .u8 b.toNat)) []
 | none => False
def Rq (o : Option Blk) (n i k size : Nat) (ag : Bool) (K : KK) : Prop := match o with
 | some (.nest es) => size = 1 ∧ ag = false ∧ match i with
   | 0 => k < es.length ∧ K (.nt n (k + 1)) []
   | i + 1 => T6 es[i]? k K
 | _ => False
def Dk (h : Nat → Option Blk) (size : Nat) (ag : Bool) : SV → KK → Prop
 | .p n off, K => ldV (h n) off size ag K
 | .ps n e, K => ldS (h n) e size ag K
 | .pr n sz i off, K => ldR (h n) sz i off size ag K
 | .pi _ es i off, K => LoadK es[i]? off size ag K
 | .np n i k, K => Rq (h n) n i k size ag K
 | _, _ => False
def Gv (n w e size : Nat) (a b : Option (List PV)) (K : KK) : Prop := match a, b with
 | some cs, some ys => e + size ≤ w ∧ K .dead [.upd n (.var (.vec w (splice cs e ys)))]
 | _, _ => False
def Po (o : Option (List SV)) (n w off size : Nat) (a b : Option (List PV)) (K : KK) : Prop := match o with
 | some l => K .dead [.upd n (.var (.agg l))]
 | none => Gv n w off size a b K
def M8 (n : Nat) (x : SV) (off size : Nat) (y : SV) (K : KK) : Prop :=
 if off = 0 ∧ size = x.width then K .dead [.upd n (.var y)]
 else Po (spl x.segs off size y.segs) n x.width off size x.cells? y.cells? K
def stV (o : Option Blk) (n off size : Nat) (y : SV) (K : KK) : Prop := match o with
 | some (.var x) => y.width = size ∧ y.flatB = true ∧ M8 n x off size y K
 | _ => False
def stS (o : Option Blk) (n e size : Nat) (y : SV) (K : KK) : Prop := match o with
 | some (.var x) => y.width = size ∧ y.flatB = true ∧ Gv n x.width e size x.cells? y.cells? K
 | _ => False
def Ja (o : Option (List PV)) (n sz' i off size : Nat) (es : List (List PV)) (K : KK) : Prop := match o with
 | some ys => i < es.length ∧ off + size ≤ sz' ∧ K .dead [.upd n (.row sz' (es.set i (splice (es.getD i []) off ys)))]
 | none => False
def stR (o : Option Blk) (n sz i off size : Nat) (y : SV) (K : KK) : Prop := match o with
 | some (.row sz' es) => y.width = size ∧ y.flatB = true ∧ sz = sz' ∧ Ja y.cells? n sz' i off size es K
 | _ => False
def Q8 (o : Option Blk) (n i k size : Nat) (y : SV) (K : KK) : Prop := match o with
 | some (.nest es) => size = 1 ∧ ∃ j l b, i = j + 1 ∧ es[j]? = some l ∧ k < l.length ∧ y = .pv (.i .u8 ((b : UInt8).toNat : Int)) ∧ K .dead [.upd n (.nest (es.set j (l.set k b)))]
 | _ => False
def Ez (h : Nat → Option Blk) (size : Nat) : SV → SV → KK → Prop
 | .p n off, y, K => stV (h n) n off size y K
 | .ps n e, y, K => stS (h n) n e size y K
 | .pr n sz i off, y, K => stR (h n) n sz i off size y K
 | .np n i k, y, K => Q8 (h n) n i k size y K
 | _, _, _ => False
def Ki (x : SV) (o : Option Blk) (sz0 : Nat) (hi mx : Bool) (i j m : Int) (es : List (List PV)) (K : KK) : Prop := match x with
 | .pv (.sl full sz _) => (es = [] ∨ sz = sz0) ∧ K (.pv (.sl ((mx && decide (m = j)) || (full && !hi && !mx)) sz ((es.take j.toNat).drop i.toNat))) []
 | .os n => match o with
   | some (.row sz _) => sz = sz0 ∧ K (.pv (.sl (mx && decide (m = j)) sz ((es.take j.toNat).drop i.toNat))) [.frz n (.sl false sz es)]
   | _ => False
 | _ => False
def SV.nm : SV → Nat
 | .os n => n
 | _ => 0
def Rd (x : SV) (h : Nat → Option Blk) (sz0 : Nat) (hi mx : Bool) (es : List (List PV)) (i j : Int) (o : Option (Int × List SV)) (K : KK) : Prop := match o with
 | some (m, _) => 0 ≤ i ∧ i ≤ j ∧ j ≤ m ∧ m ≤ es.length ∧ Ki x (h x.nm) sz0 hi mx i j m es K
 | none => False
def Re (x : SV) (h : Nat → Option Blk) (sz0 : Nat) (hi mx : Bool) (es : List (List PV)) (i : Int) (o : Option (Int × List SV)) (K : KK) : Prop := match o with
 | some (j, l) => Rd x h sz0 hi mx es i j (D8 mx es.length l) K
 | none => False
def Rf (x : SV) (h : Nat → Option Blk) (sz0 : Nat) (hi mx : Bool) (es : List (List PV)) (o : Option (Int × List SV)) (K : KK) : Prop := match o with
 | some (i, l) => Re x h sz0 hi mx es i (D8 hi es.length l) K
 | none => False
def Jb (x : SV) (h : Nat → Option Blk) (sz0 : Nat) (lo hi mx : Bool) (l : List SV) (o : Option (List (List PV))) (K : KK) : Prop := match o with
 | some es => Rf x h sz0 hi mx es (D8 lo 0 l) K
 | none => False
def Z6 (s : List UInt8) (i : Int) (o : Option (Int × List SV)) (K : KK) : Prop := match o with
 | some (j, _) => 0 ≤ i ∧ i ≤ j ∧ j ≤ s.length ∧ K (.pv (.s ((s.take j.toNat).drop i.toNat))) []
 | none => False
def Z7 (hi : Bool) (s : List UInt8) (o : Option (Int × List SV)) (K : KK) : Prop := match o with
 | some (i, l) => Z6 s i (D8 hi s.length l) K
 | none => False
def Cn (o : Option Blk) : Option (List (List PV)) := match o with
 | some (.row _ es) => some es
 | some (.rowc _ es _) => some es
 | _ => none
def Bs (o : Option Blk) : Nat := match o with
 | some (.row sz _) => sz
 | some (.rowc sz _ _) => sz
 | _ => 0
def Ea (h : Nat → Option Blk) : SV → Option (List (List PV))
 | .ov n _ lo hi => (Cn (h n)).map fun es => (es.take hi).drop lo
 | x => Ba h x
def Fz (h : Nat → Option Blk) : SV → Nat
 | .ov n z _ _ => if Bs (h n) = z then z else 0
 | x => Ec h x
def Gq (o : Option Blk) (e : Option (List (List PV))) (z d sz bytes n : Nat) (K : KK) : Prop := match o, e with
 | some (.row sz' es), some ys => sz = sz' ∧ (ys = [] ∨ z = sz) ∧ (es.length + ys.length) * bytes ≤ 70368744177664 ∧ K (.os d) [.del n, .new d (.row sz (es ++ ys))]
 | _, _ => False
def N0 (z' : Nat) (es : List (List PV)) (e : Option (List (List PV))) (z d sz bytes : Nat) (K : KK) : Prop := match e with
 | some ys => (ys = [] → es = []) ∧ (es = [] ∨ z' = sz) ∧ (ys = [] ∨ z = sz) ∧ (es.length + ys.length) * bytes ≤ 70368744177664 ∧ K (.os d) [.new d (.row sz (es ++ ys))]
 | _ => False
def Js (o : Option Blk) (n sz i : Nat) (e : Option (List (List PV))) (z : Nat) (K : KK) : Prop := match o, e with
 | some (.row sz' es), some ys => sz = sz' ∧ (ys = [] ∨ z = sz) ∧ i + ys.length ≤ es.length ∧ K (.ov n sz 0 (i + ys.length)) [.upd n (.row sz (es.take i ++ ys ++ es.drop (i + ys.length)))]
 | _, _ => False
def Mp (o q : Option Blk) (n m d sz bytes : Nat) (K : KK) : Prop := match o, q with
 | some (.nest es), some (.nest ys) => n ≠ m ∧ sz = 1 ∧ (es.length + ys.length) * bytes ≤ 70368744177664 ∧ K (.nt d 0) [.del n, .del m, .new d (.nest (es ++ ys))]
 | _, _ => False
def Mo (es : List (List PV)) (q : Option Blk) (m d sz bytes : Nat) (K : KK) : Prop := match q with
 | some (.nest ys) => es = [] ∧ ys ≠ [] ∧ sz = 1 ∧ ys.length * bytes ≤ 70368744177664 ∧ K (.nt d 0) [.del m, .new d (.nest ys)]
 | _ => False
def Db (h : Nat → Option Blk) (d sz bytes : Nat) : SV → SV → KK → Prop
 | .os n, y, K => Gq (h n) (Ba h y) (Ec h y) d sz bytes n K
 | .nt n 0, .nt m 0, K => Mp (h n) (h m) n m d sz bytes K
 | .pv (.sl true z es), .nt m 0, K => Mo es (h m) m d sz bytes K
 | .pv (.sl true z es), y, K => N0 z es (Ba h y) (Ec h y) d sz bytes K
 | .ov n z lo i, y, K => z = sz ∧ lo = 0 ∧ Js (h n) n sz i (Ea h y) (Fz h y) K
 | _, _, _ => False
def Ka (off : Nat) : SV → KK → Prop
 | .p n o, K => K (.p n (o + off)) []
 | .ps n o, K => K (.ps n (o + off)) []
 | .pr n sz i o, K => K (.pr n sz i (o + off)) []
 | .pi sz es i o, K => K (.pi sz es i (o + off)) []
 | _, _ => False
def Qd (len stride : Nat) (j : Int) : SV → KK → Prop
 | .p n o, K => 0 ≤ j ∧ j < len ∧ K (.ps n (o + j.toNat * stride)) []
 | .ps n o, K => 0 ≤ j ∧ j < len ∧ K (.ps n (o + j.toNat * stride)) []
 | .pr n sz i o, K => 0 ≤ j ∧ j < len ∧ K (.pr n sz i (o + j.toNat * stride)) []
 | .pi sz es i o, K => 0 ≤ j ∧ j < len ∧ K (.pi sz es i (o + j.toNat * stride)) []
 | _, _ => False
def Jm (o : Option Blk) (sz : Nat) (j : Int) (n : Nat) (K : KK) : Prop := match o with
 | some (.row sz' es) => 0 ≤ j ∧ j < es.length ∧ sz = sz' ∧ K (.pr n sz j.toNat 0) []
 | _ => False
def Fl (o : Option Blk) (i : Nat) : Option Nat := match o with
 | some (.nest es) => match i with
   | 0 => some es.length
   | i + 1 => (es[i]?).map List.length
 | _ => none
def Ug (o : Option Nat) (sz : Nat) (j : Int) (n i : Nat) (K : KK) : Prop := match o with
 | some k => 0 ≤ j ∧ j < k ∧ sz = 1 ∧ K (.np n i j.toNat) []
 | none => False
def Es (h : Nat → Option Blk) (sz : Nat) (j : Int) : SV → KK → Prop
 | .pv (.sl _ sz' es), K => 0 ≤ j ∧ j < es.length ∧ sz = sz' ∧ K (.pi sz es j.toNat 0) []
 | .os n, K => Jm (h n) sz j n K
 | .nt n i, K => Ug (Fl (h n) i) sz j n i K
 | _, _ => False
def Hf (D2 : Bool) : SV → SV → KK → Prop
 | .pv (.i k a), .pv (.i k' b), K => k = k' ∧ K (.pv (.i k (if D2 then max a b else min a b))) []
 | _, _, _ => False
def Iz (n : Nat) (o : Option (List PV)) (K : KK) : Prop := match o with
 | some cs => cs.length = n ∧ K (.vec n cs) []
 | none => False
def Du (d sz : Nat) (o : Option (List (List PV) × List HU)) (K : KK) : Prop := match o with
 | some (es, u) => (∀ c ∈ es, c.length = sz) ∧ K (.os d) (u ++ [.new d (.row sz es)])
 | none => False
def L7 (g : Bool) (ks : List K1) (a b : Option (List PV)) (K : KK) : Prop := match a, b with
 | some a, some b => Ck ks a ∧ Ck ks b ∧ K (.pv (.b (g ^^ peq a b))) []
 | _, _ => False
def eq1 (g : Bool) (ks : List K1) (x : SV) (K : KK) : Prop := match ks, x with
 | [], .p _ _ => K (.pv (.b g)) []
 | [], .pi _ _ _ _ => K (.pv (.b g)) []
 | [], .pv (.v (.pointer none)) => K (.pv (.b !g)) []
 | _ :: _, .fn _ _ => K (.pv (.b g)) []
 | _ :: _, .pv (.v .nilFunc) => K (.pv (.b !g)) []
 | _, _ => False
def Fm (o : Option (List (List PV))) (K : KK) : Prop := match o with
 | some es => K (.pv (.i .i64 es.length)) []
 | none => False
def Fv (o : Option (List (List PV))) (K : KK) : Prop := match o with
 | some es => Mx es K
 | none => False
def H1 (o : Option Blk) (n : Nat) (K : KK) : Prop := match o with
 | some (.row sz es) => sz = 1 ∧ es ≠ [] ∧ K (.os n) []
 | _ => False
def R3 (neg : Bool) (o : Option (List (List PV))) (K : KK) : Prop := match o with
 | some es => ∀ b : Bool, (es ≠ [] → b = false) → K (.pv (.b (neg ^^ b))) []
 | none => False
def Sa (o : Option Blk) (n : Nat) (K : KK) : Prop := match o with
 | some (.row sz es) => ∀ c : Nat, es.length ≤ c → K (.pv (.i .i64 c)) [.upd n (.rowc sz es c)]
 | some (.rowc _ _ c) => K (.pv (.i .i64 c)) []
 | _ => False
def Hy (o : Option Blk) (n sz : Nat) (lo : Nat) (hi : Option Nat) (e : Option (List (List PV))) (z : Nat) (K : KK) : Prop := match o, e with
 | some (.row sz' es), some ys => sz = sz' ∧ (ys = [] ∨ z = sz) ∧
    K (.pv (.i .i64 ((min ys.length (hi.getD es.length - lo) : Nat) : Int))) [.upd n (.row sz (es.take lo ++ ys.take (hi.getD es.length - lo) ++ es.drop (lo + min ys.length (hi.getD es.length - lo))))]
 | _, _ => False
def Jp (h : Nat → Option Blk) (sz : Nat) : SV → SV → KK → Prop
 | .os n, y, K => Hy (h n) n sz 0 none (Ea h y) (Fz h y) K
 | .ov n z lo hi, y, K => z = sz ∧ Hy (h n) n sz lo (some hi) (Ea h y) (Fz h y) K
 | _, _, _ => False
def O9 (o : Option Blk) (d sz bytes : Nat) (z : List PV) (hi : Nat) (m : Int) (K : KK) : Prop := match o with
 | some (.rowc sz' es c) => sz = sz' ∧ 0 < m ∧ (c : Int) < hi + m ∧ (hi + m) * bytes ≤ 70368744177664 ∧ K (.os d) [.new d (.row sz (es.take hi ++ List.replicate m.toNat z))]
 | _ => False
def Jr (h : Nat → Option Blk) (d sz bytes : Nat) (z : List PV) (m : Int) : SV → KK → Prop
 | .ov n _ lo hi, K => lo = 0 ∧ O9 (h n) d sz bytes z hi m K
 | _, _ => False
def Z4 (n sz len : Nat) (i : Int) (o : Option (Int × List SV)) (K : KK) : Prop := match o with
 | some (j, _) => 0 ≤ i ∧ i ≤ j ∧ j ≤ len ∧ K (.ov n sz i.toNat j.toNat) []
 | none => False
def Z5 (n sz : Nat) (hi : Bool) (e : Option (List (List PV))) (z : Nat) (o : Option (Int × List SV)) (K : KK) : Prop := match e, o with
 | some es, some (i, l) => sz = z ∧ Z4 n sz es.length i (D8 hi es.length l) K
 | _, _ => False
def V0 (e : Option (List (List PV))) (z n sz : Nat) (i j : Int) (K : KK) : Prop := match e with
 | some es => sz = z ∧ 0 ≤ i ∧ i ≤ j ∧ j ≤ es.length ∧ K (.ov n sz i.toNat j.toNat) []
 | none => False
def Z3 (o : Option Blk) (n sz : Nat) (l : List SV) (K : KK) : Prop := match l with
 | [.pv (.i _ i), .pv (.i _ j)] => V0 (Cn o) (Bs o) n sz i j K
 | _ => False
def Lg (h : Nat → Option Blk) (sz : Nat) (lo hi : Bool) (x : SV) (l : List SV) (K : KK) : Prop := match x with
 | .os n => Z5 n sz hi (Cn (h n)) (Bs (h n)) (D8 lo 0 l) K
 | .pv p => Jb (.pv p) h sz lo hi false l (Ba h (.pv p)) K
 | .ov n z a _ => z = sz ∧ a = 0 ∧ lo = true ∧ hi = true ∧ Z3 (h n) n sz l K
 | _ => False
def Rb (o : Option Blk) (n d sz : Nat) (j : Int) (T : Prop) (K : KK) : Prop := match o with
 | some (.rowc sz' es c) => sz = sz' ∧ es.length ≤ j ∧ j ≤ c ∧ ∀ g : List (List PV), g.length = j.toNat - es.length → (∀ x ∈ g, x.length = sz) → K (.os d) [.del n, .new d (.row sz (es ++ g))]
 | _ => T
def Ra (h : Nat → Option Blk) (d sz : Nat) (x : SV) (j : Int) (l : List SV) (K : KK) : Prop := match x with
 | .os n => Rb (h n) n d sz j (Jb (.os n) h sz false true false l (Ba h (.os n)) K) K
 | .pv p => Jb (.pv p) h sz false true false l (Ba h (.pv p)) K
 | _ => False
def Adg (e : Option (List (List PV))) (z sz : Nat) (i j m : Int) (K : KK) : Prop := match e with
 | some es => sz = z ∧ 0 ≤ i ∧ i ≤ j ∧ j ≤ m ∧ m ≤ es.length ∧ K .dead []
 | none => False
def X7 (o : Option Blk) (n sz : Nat) (zero : List PV) (lo hi : Nat) (K : KK) : Prop := match o with
 | some (.row sz' es) => sz = sz' ∧ K (.tup []) [.upd n (.row sz (es.take lo ++ List.replicate (hi - lo) zero ++ es.drop hi))]
 | _ => False
def O6 (h : Nat → Option Blk) (sz : Nat) (zero : List PV) (x : SV) (K : KK) : Prop := match x with
 | .ov n z lo hi => z = sz ∧ X7 (h n) n sz zero lo hi K
 | _ => False
def Afe (l : List UInt8) (pos : Nat) : Nat × Nat := Utf8.decode ⟨l.toArray⟩ pos
def Ajy (n : Int) : List UInt8 := (Utf8.encode n).data.toList
def Wu (o : Option Blk) (n : Nat) (K : KK) : Prop := match o with
 | some (.it l pos) => if pos < l.length then K (.tup [.pv (.b true), .pv (.i .i64 pos), .pv (.i .i32 (Afe l pos).1)]) [.upd n (.it l (pos + (Afe l pos).2))] else K (.tup [.pv (.b false)]) []
 | _ => False
def Oj (h : Nat → Option Blk) (x : SV) (K : KK) : Prop := match x with
 | .p n 0 => Wu (h n) n K
 | _ => False
def R2 (o : Option SV) (K : KK) : Prop := match o with
 | some x => K x []
 | none => False
def Rp (o : Option Nat) (K : KK) : Prop := match o with
 | some k => K (.pv (.i .i64 k)) []
 | none => False
def Qs (o : Option Blk) (n d sz : Nat) (T : Prop) (K : KK) : Prop := match o with
 | some (.row 1 es) => ∃ b, es = Ad b ∧ sz = 1 ∧ K (.nt d 0) [.del n, .new d (.nest [b])]
 | _ => T
def Km (h : Nat → Option Blk) (d sz : Nat) (l : List SV) (K : KK) : Prop := match l with
 | [.os n] => Qs (h n) n d sz (Du d sz (Cs h l) K) K
 | l => Du d sz (Cs h l) K
def Ah (d : Nat) (h : Nat → Option Blk) (k : Kd) (l : List SV) (K : KK) : Prop :=
 match k with
 | .mv => match l with | [x] => K x [] | _ => False
 | .pick => match l with | [c, x, y] => Eh c x y K | _ => False
 | .new z => K (.p d 0) [.new d (.var z)]
 | .box => match l with | [x] => x.flatB = true ∧ K (.p d 0) [.new d (.var (x.kill d))] | _ => False
 | .bld ns => I5 l = ns ∧ SV.flatBL l = true ∧ K (.agg (Lh l)) []
 | .bldV n sz => Zb sz l ∧ Iz n (SV.cellsL? l) K
 | .bsl sz => Km h d sz l K
 | .ld size ag => match l with | [a] => Dk h size ag a K | _ => False
 | .sto size => match l with | [a, y] => Ez h size a y K | _ => False
 | .bin op => match l with | [x, y] => Gp op x y K | _ => False
 | .binB op => match l with | [.pv (.b x), .pv (.b y)] => binB op x y K | _ => False
 | .eqv neg ks => match l with | [x, y] => x.isAg = true ∧ y.isAg = true ∧ L7 neg ks x.cells? y.cells? K | [x] => eq1 neg ks x K | _ => False
 | .un op => match l with | [x] => K9 op x K | _ => False
 | .cvI k => match l with | [.pv (.i _ n)] => K (.pv (.i k (k.wrap n))) [] | _ => False
 | .cvS => match l with | [.pv (.s l)] => K (.pv (.s l)) [] | _ => False
 | .s2b => match l with | [.pv (.s l)] => K (.os d) [.new d (.row 1 (Ad l))] | _ => False
 | .b2s => match l with | [.pv (.sl _ _ es)] => Fv (some es) K | [.os n] => Fv (Cy (h n)) K | _ => False
 | .b2b => match l with | [.os n] => H1 (h n) n K | _ => False
 | .mks zero bytes => match l with | [.pv (.i _ l), .pv (.i _ c)] => 0 ≤ l ∧ l ≤ c ∧ c * bytes ≤ 70368744177664 ∧ K (.os d) [.new d (.row zero.length (List.replicate l.toNat zero))] | _ => False
 | .slc sz lo hi mx => match l with | x :: l => Jb x h sz lo hi mx l (Ba h x) K | _ => False
 | .sls lo hi => match l with | .pv (.s s) :: l => Z7 hi s (D8 lo 0 l) K | _ => False
 | .fa off => match l with | [a] => Ka off a K | _ => False
 | .iaC off => match l with | [a] => Ka off a K | _ => False
 | .iaS sz => match l with | [a, .pv (.i _ j)] => Es h sz j a K | _ => False
 | .iaA len stride => match l with | [a, .pv (.i _ j)] => Qd len stride j a K | _ => False
 | .fld off size ag => match l with | [x] => x.isAg = true ∧ Hg x off size ag K | _ => False
 | .ixA len stride ag => match l with | [x, .pv (.i _ j)] => 0 ≤ j ∧ j < len ∧ x.isAg = true ∧ LoadK x.cells? (j.toNat * stride) stride ag K | _ => False
 | .ixS => match l with | [.pv (.s l), .pv (.i _ j)] => 0 ≤ j ∧ j < l.length ∧ K (.pv (.i .u8 (l.getD j.toNat 0).toNat)) [] | _ => False
 | .ext k => match l with | [.tup l] => R2 (nth l k) K | _ => False
 | .len => match l with | [.pv (.sl _ _ es)] => Fm (some es) K | [.os n] => Fm (Cy (h n)) K | [.ov _ _ lo hi] => K (.pv (.i .i64 ((hi - lo : Nat) : Int))) [] | [.nt n i] => Rp (Fl (h n) i) K | _ => False
 | .lenS => match l with | [.pv (.s l)] => K (.pv (.i .i64 l.length)) [] | _ => False
 | .app sz bytes => match l with | [x, y] => Db h d sz bytes x y K | _ => False
 | .mx => match l with | [x, y] => Hf true x y K | _ => False
 | .mn => match l with | [x, y] => Hf false x y K | _ => False
 | .mkf fn => K (.fn fn l) []
 | .nilc => match l with
   | [.p n o] => K (.p n o) []
   | [.ps n o] => K (.ps n o) []
   | [.pr n z i o] => K (.pr n z i o) []
   | [.pi z es i o] => K (.pi z es i o) []
   | [.fn f l] => K (.fn f l) []
   | _ => False
 | .eqn neg => match l with | [.pv (.sl _ _ es)] => R3 neg (some es) K | [.os n] => R3 neg (Cy (h n)) K | _ => False
 | .cap => match l with | [.os n] => Sa (h n) n K | _ => False
 | .cpy sz => match l with | [x, y] => Jp h sz x y K | _ => False
 | .apz sz bytes z => match l with | [x, .pv (.i _ m)] => Jr h d sz bytes z m x K | _ => False
 | .slv sz lo hi => match l with | x :: l => Lg h sz lo hi x l K | _ => False
 | .slx sz => match l with | [x, .pv (.i k j)] => Ra h d sz x j [.pv (.i k j)] K | [.os n, .pv (.i _ i), .pv (.i _ j), .pv (.i _ m)] => Adg (Cn (h n)) (Bs (h n)) sz i j m K | [.pv p, i, j, m] => Jb (.pv p) h sz true true true [i, j, m] (Ba h (.pv p)) K | _ => False
 | .clr sz z => match l with | [x] => O6 h sz z x K | _ => False
 | .rgs => match l with | [.pv (.s l)] => K (.p d 0) [.new d (.it l 0)] | _ => False
 | .nxs => match l with | [x] => Oj h x K | _ => False
 | .r2s => match l with | [.pv (.i _ n)] => K (.pv (.s (Ajy n))) [] | _ => False
 | .call _ => False
 | .callv => False
 | .yv => False
structure I where
 k : Kd
 x : List Opd
 d : Option Nat
 g : Option (Nat × Bool)
inductive C where
 | ops (l : List I)
 | any (D : List Nat) (l : List (I × Nat × List Nat))
 | anyF (D : List Nat) (l : List (I × Nat × List Nat))
 | anyP (D : List Nat) (l : List (I × Nat × List Nat × List Nat × Nat))
 | seq (a b : C)
 | ite (c : Opd) (a b : C)
 | block (id : Nat) (a : C)
 | loop (a : C)
 | rng (g : Opd) (ps : List Nat) (a b : C)
 | exit (id : Nat)
 | ret
 | skip
 | bad
inductive Ex where
 | normal | exit (id : Nat) | ret
abbrev A5 := Ex → FS → Prop
structure Env where
 call : Nat → List SV → (Nat → Option Blk) → Nat → SV → List HU → Prop
 deep : Nat → List SV → (Nat → Option Blk) → Nat → SV → List HU → Prop
 loop : C → A5 → FS → Prop
 yld : Nat → List SV → KK → FS → Prop
 rng : Nat → List SV → List Nat → C → C → A5 → FS → Prop
def Env.reg (E : Env) : Env := ⟨E.call, fun _ _ _ _ _ _ => False, E.loop, E.yld, E.rng⟩
variable (E : Env)
def Ax (s : FS) : List Opd → List SV
 | [] => []
 | x :: l => s.ev x :: Ax s l
def Mb (f : Nat) (args : List SV) (h : Nat → Option Blk) (d : Nat) (K : KK) : Prop := ∃ x u, (E.call f args h d x u ∨ E.deep f args h d x u) ∧ K x u
def Gn (l : List SV) (h : Nat → Option Blk) (d : Nat) (K : KK) : Prop := match l with
 | .fn (.func f) cap :: args => Mb E f (args ++ cap) h d K
 | _ => False
def yvK (l : List SV) (s : FS) (d : Nat) (K : KK) : Prop := match l with
 | .fn (.yield n) [] :: args => E.yld n args K s
 | l => Gn E l s.h d K
def body (k : Kd) (x : List Opd) (d : Nat) (s : FS) (K : KK) : Prop :=
 match k with
 | .call f => Mb E f (Ax s x) s.h d K
 | .callv => Gn E (Ax s x) s.h d K
 | .yv => yvK E (Ax s x) s d K
 | k => Ah d s.h k (Ax s x) K
def Et (x : SV) (w : Bool) (A B : Prop) : Prop := match x with
 | .pv (.b p) => if p = w then A else B
 | .tup [] => B
 | _ => False
def P0 (i : I) (s : FS) (K : KK) : Prop := match i.g with
 | none => body E i.k i.x (i.d.getD 0) s K
 | some (j, w) => Et (s.t j) w (body E i.k i.x (i.d.getD 0) s K) (K (.tup []) [])
def S0 : List I → A5 → FS → Prop
 | [], Q, s => Q .normal s
 | i :: l, Q, s => P0 E i s fun x u => S0 l Q (s.apply i.d x u)
def noD (d : Nat) (x : SV) : List Nat → Prop
 | [] => True
 | e :: D => (if e = d then True else x.kill e = x) ∧ noD d x D
def P2 (d : Nat) (b : Blk) : List Nat → Prop
 | [] => True
 | e :: D => (if e = d then True else b.kill e = b) ∧ P2 d b D
def Ci (D : List Nat) (d : Nat) : List HU → Prop
 | [] => True
 | .new n b :: u => n = d ∧ n ∈ D ∧ P2 d b D ∧ Ci D d u
 | .upd _ b :: u => P2 d b D ∧ Ci D d u
 | .del _ :: u => Ci D d u
 | .frz _ _ :: _ => False
 | .set _ _ :: _ => False
def Bq (D : List Nat) (d : Nat) : List HU → Prop
 | [] => True
 | .new n b :: u => n = d ∧ n ∈ D ∧ P2 d b D ∧ Bq D d u
 | .upd _ b :: u => P2 d b D ∧ Bq D d u
 | .del _ :: u => Bq D d u
 | .frz _ _ :: u => Bq D d u
 | .set _ _ :: _ => False
def Ep (D : List Nat) (d : Nat) : List HU → Prop
 | [] => True
 | [.new n b] => n = d ∧ n ∈ D ∧ P2 d b D
 | _ => False
def Wo (D : List Nat) (c d : Nat) (x : SV) (u : List HU) : Prop := noD d x D ∧ match c with
 | 0 => u = []
 | 1 => Ep D d u
 | 2 => Ci D d u
 | _ => Bq D d u
def Vv : List (I × Nat × List Nat) → A5 → FS → Prop
 | [], Q, s => Q .normal s
 | i :: l, Q, s => P0 E i.1 s fun x u => Wo i.2.2 i.2.1 (i.1.d.getD 1000000000) x u ∧ Vv l Q (s.apply i.1.d x u)
def killD : List Nat → FS → FS
 | [], s => s
 | d :: D, s => killD D (s.kill d)
inductive Frzs : FS → FS → Prop where
 | refl (s : FS) : Frzs s s
 | step {s s' : FS} (n sz : Nat) (es : List (List PV)) (h : s.h n = some (.row sz es)) (t : Frzs (s.frz n (.sl false sz es)) s') : Frzs s s'
def Aj8 (D : List Nat) (l : List (I × Nat × List Nat)) (Q : A5) (s : FS) : Prop := ∃ s', Frzs s s' ∧ Vv E l Q (killD D s')
def inT (n : Nat) : List Nat → Prop
 | [] => False
 | m :: T => if n = m then True else inT n T
def F7 (T : List Nat) : List HU → Prop
 | [] => True
 | .new n _ :: u => inT n T ∧ F7 T u
 | .upd n _ :: u => inT n T ∧ F7 T u
 | .del n :: u => inT n T ∧ F7 T u
 | .frz _ _ :: _ => False
 | .set _ _ :: _ => False
def Aal (n : Nat) : List Nat → Prop
 | [] => True
 | m :: T => if n = m then False else Aal n T
def Tk : List Nat → List Nat → Prop
 | [], _ => True
 | n :: S, T => Aal n T ∧ Tk S T
def V8 (acc : List (Nat × List Nat)) : List Nat → List Nat → Prop
 | [], _ => True
 | k :: ps, T => Tk (lk [] k acc) T ∧ V8 acc ps T
def okP (D : List Nat) (c d : Nat) (x : SV) (u : List HU) (T : List Nat) : Prop := noD d x D ∧ match c with
 | 0 => u = []
 | 1 => Ep D d u
 | _ => Ci D d u ∧ F7 T u
mutual
def tnP : SV → List Nat
 | .p n _ => [n]
 | .ps n _ => [n]
 | .pr n _ _ _ => [n]
 | .os n => [n]
 | .nt n i_ => [n]
 | .np n i_ k_ => [n]
 | .ov n _ _ _ => [n]
 | .fn _ cap => J1 cap
 | .agg l => J1 l
 | .tup l => J1 l
 | _ => []
def J1 : List SV → List Nat
 | [] => []
 | x :: l => tnP x ++ J1 l
end
def Hk (s : FS) (i : I) : List Nat := match i.d with
 | some d => d :: J1 (Ax s i.x)
 | none => J1 (Ax s i.x)
def Ack (c k : Nat) (T : List Nat) (acc : List (Nat × List Nat)) : List (Nat × List Nat) := match c with
 | 0 => acc
 | _ => (k, T) :: acc
def sxP : List (I × Nat × List Nat × List Nat × Nat) → List (Nat × List Nat) → A5 → FS → Prop
 | [], _, Q, s => Q .normal s
 | i :: l, acc, Q, s => P0 E i.1 s fun x u => okP i.2.2.1 i.2.1 (i.1.d.getD 1000000000) x u (Hk s i.1) ∧ V8 acc i.2.2.2.1 (Hk s i.1) ∧ sxP l (Ack i.2.1 i.2.2.2.2 (Hk s i.1) acc) Q (s.apply i.1.d x u)
def Ait (D : List Nat) (l : List (I × Nat × List Nat × List Nat × Nat)) (Q : A5) (s : FS) : Prop := ∃ s', Frzs s s' ∧ sxP E l [] Q (killD D s')
def Acm (K : FS → Prop) (Q : A5) : A5
 | .normal, s => K s
 | e, s => Q e s
def Nm (id : Nat) (Q : A5) : A5
 | .exit j, s => if j = id then Q .normal s else Q (.exit j) s
 | e, s => Q e s
def Aaf (g : SV) (ps : List Nat) (a b : C) (Q : A5) (s : FS) : Prop := match g with
 | .fn (.func f) cap => E.rng f cap ps a b Q s
 | _ => False
def sx : C → A5 → FS → Prop
 | .ops l, Q, s => S0 E l Q s
 | .any D l, Q, s => Vv E.reg l Q (killD D s)
 | .anyF D l, Q, s => Aj8 E.reg D l Q s
 | .anyP D l, Q, s => Ait E.reg D l Q s
 | .seq a b, Q, s => sx a (Acm (sx b Q) Q) s
 | .ite c a b, Q, s => match s.ev c with
   | .pv (.b p) => if p = true then sx a Q s else sx b Q s
   | _ => False
 | .block id a, Q, s => sx a (Nm id Q) s
 | .loop a, Q, s => E.loop a Q s
 | .rng g ps a b, Q, s => Aaf E (s.ev g) ps a b Q s
 | .exit id, Q, s => Q (.exit id) s
 | .ret, Q, s => Q .ret s
 | .skip, Q, s => Q .normal s
 | .bad, _, _ => False
def Ac (P : Program) (t : TypeId) : Option Nat := (P.info? t).map (·.size)
def Dn (P : Program) (t : TypeId) : Option Nat := (P.info? t).map (·.bytes)
def Cc (P : Program) (t : TypeId) : Option Bool := (P.underlying t).map fun
 | .struct _ | .array _ _ => true
 | _ => false
def Bx : Value → Option PV
 | .int k n => some (.i k n)
 | .bool b => some (.b b)
 | .string s => some (.s s.data.toList)
 | .slice none 0 0 => some (.sl true 0 [])
 | .pointer none => some (.v (.pointer none))
 | .nilFunc => some (.v .nilFunc)
 | .nilIface => some (.v .nilIface)
 | .map none => some (.v (.map none))
 | _ => none
def Af {α : Type} : List (Option α) → Option (List α)
 | [] => some []
 | x :: l => match x, Af l with
   | some a, some b => some (a :: b)
   | _, _ => none
def A2 (P : Program) (t : TypeId) : Option (List PV) :=
 match (P.info? t).bind (·.zero) with
 | some (.agg cs) => Af (cs.toList.map Bx)
 | some v => (Bx v).map fun x => [x]
 | none => none
def Vn (P : Program) : Nat → TypeId → Option SV
 | 0, _ => none
 | d + 1, t => match P.underlying t with
   | some (.array n e) => match A2 P t with
     | some cs => some (.vec cs.length cs)
     | none => none
   | some (.struct fs) => (Af (fs.toList.map fun f => Vn P d f.type)).map fun l => .agg (Lh l)
   | some _ => match A2 P t with
     | some [x] => some (.pv x)
     | _ => none
   | none => none
def Jh (P : Program) : Nat → List Field → List (List K1) → Bool
 | _, [], [] => true
 | off, f :: fs, l :: ls => decide (f.offset = off) && decide (Ac P f.type = some l.length) && (f.name != "_") && decide (0 < l.length) && Jh P (off + l.length) fs ls
 | _, _, _ => false
def Er (P : Program) : Nat → TypeId → Option (List K1)
 | 0, _ => none
 | d + 1, t => match P.underlying t with
   | some (.int k) => some [.int k]
   | some .bool => some [.bool]
   | some .string => some [.str]
   | some (.array n e) => match Er P d e with
     | some l => if Ac P e = some l.length then some (List.replicate n l).flatten else none
     | none => none
   | some (.struct fs) => if P.stoodInHeld t then none else match Af (fs.toList.map fun f => Er P d f.type) with
     | some ls => if Jh P 0 fs.toList ls then some ls.flatten else none
     | none => none
   | _ => none
def An : Operand → Option Opd
 | .tmp t => if t < D2 then some (.t t) else none
 | .const v => match v with
   | .agg cs => (Af (cs.toList.map Bx)).map fun l => .c (.vec l.length l)
   | v => (Bx v).map fun x => .c (.pv x)
 | .func f => some (.c (.fn (.func f) []))
 | .global _ => none
def Aj (l : List Operand) : Option (List Opd) := Af (l.map An)
def Wf : PV → PV → Bool
 | .i k n, .i k' n' => decide (k = k') && decide (n = n')
 | .b x, .b y => x == y
 | .s l, .s m => decide (l = m)
 | .sl true 0 [], .sl true 0 [] => true
 | .v (.pointer none), .v (.pointer none) => true
 | .v .nilFunc, .v .nilFunc => true
 | .v .nilIface, .v .nilIface => true
 | .v (.map none), .v (.map none) => true
 | _, _ => false
def Gc : List PV → List PV → Bool
 | [], [] => true
 | x :: l, y :: m => Wf x y && Gc l m
 | _, _ => false
mutual
def SV.okB : SV → Bool
 | .pv _ => true
 | .vec m cs => decide (cs.length = m)
 | .agg l => SV.okBL l
 | _ => false
def SV.okBL : List SV → Bool
 | [] => true
 | x :: l => x.okB && SV.okBL l
end
def Q6 (P : Program) (t : TypeId) (z : SV) : Bool :=
 z.okB && match z.cells?, A2 P t, Ac P t, Cc P t with
 | some a, some b, some n, some ag => (match (P.info? t).bind (·.zero) with | some (.agg _) => ag | some _ => !ag | none => false) && Gc a b && decide (a.length = n) && (match z with | .pv _ => !ag | .vec m _ => ag && decide (m = n) | .agg l => ag && decide (SV.widthL l = n) | _ => false)
 | _, _, _, _ => false
def Jt (P : Program) (t : TypeId) : Option SV := match Vn P 20 t with
 | some z => if Q6 P t z then some z else none
 | none => none
def Vr (P : Program) : Nat → List Field → Bool
 | _, [] => true
 | off, f :: fs => decide (f.offset = off) && match Ac P f.type with
   | some n => Vr P (off + n) fs
   | none => false
def L3 (P : Program) : List Field → Nat
 | [] => 0
 | f :: fs => (Ac P f.type).getD 0 + L3 P fs
def Gu (P : Program) (t : TypeId) (ts : List TypeId) : Bool :=
 match A2 P t, Af (ts.map (A2 P)), Cc P t, (P.info? t).bind (·.zero) with
 | some a, some bs, some true, some (.agg _) => Gc a bs.flatten && (ts.zip bs).all fun p => decide (Ac P p.1 = some p.2.length)
 | _, _, _, _ => false
def ins (k : Kd) (x : Option (List Opd)) : Option (Kd × List Opd) := x.map fun x => (k, x)
def Iw : Operand → Option Int
 | .const (.int _ n) => some n
 | _ => none
def Dr (P : Program) (t : TypeId) (parts : List (Nat × Operand)) (i : Nat) : Option Opd :=
 match parts.find? (fun p => p.1 == i) with
 | some (_, x) => An x
 | none => (Jt P t).map .c
def C6 : List Nat → Bool
 | [] => true
 | x :: l => !l.contains x && C6 l
def W8 (P : Program) (e : TypeId) : Bool := match P.underlying e with
 | some (.int .u8) => true
 | _ => false
theorem Ku {P : Program} {e : TypeId} (h : W8 P e = true) : P.underlying e = some (.int .u8) := by
 unfold W8 at h;split at h
 · assumption
 · cases h
def Xa (P : Program) (u : TypeId) : Bool := match P.underlying u with
 | some (.slice _) => true
 | some .string => true
 | _ => false
theorem W9 {P : Program} {u : TypeId} (h : Xa P u = true) : (∃ e', P.underlying u = some (.slice e')) ∨ P.underlying u = some .string := by
 unfold Xa at h;split at h
 · exact .inl ⟨_, by assumption⟩
 · exact .inr (by assumption)
 · cases h
def Ov : Operand → Bool
 | .const (.slice none 0 0) => true
 | _ => false
def Ot : Operand → Bool
 | .const (.pointer none) => true
 | _ => false
def Ou : Operand → Bool
 | .const .nilFunc => true
 | _ => false
def Ru (P : Program) (u : TypeId) : Bool := match P.underlying u with
 | some (.int _) => true
 | _ => false
def E9 (P : Program) (o : Oper) : Option (Kd × List Opd) :=
 match o.op with
 | .move x | .assign x => ins .mv (Aj [x])
 | .pick c a b => ins .pick (Aj [c, a, b])
 | .alloc t => match Jt P t with
   | some z => some (.new z, [])
   | none => none
 | .box _ x => ins .box (Aj [x])
 | .build t parts => match P.underlying t with
   | some (.struct fs) => if Vr P 0 fs.toList && decide (Ac P t = some (L3 P fs.toList)) && C6 (parts.toList.map (·.1)) && parts.toList.all (fun p => decide (p.1 < fs.size)) && Gu P t (fs.toList.map (·.type)) then
      ins (.bld (fs.toList.map fun f => (Ac P f.type).getD 0)) (Af ((List.range (fs.toList.map (·.type)).length).map fun i => match (fs.toList.map (·.type))[i]? with
      | some t => Dr P t parts.toList i
      | none => none)) else none
   | some (.array n e) => match Ac P t with
     | some sz => if C6 (parts.toList.map (·.1)) && parts.toList.all (fun p => decide (p.1 < n)) && decide (Ac P t = (Ac P e).map (n * ·)) && Gu P t (List.replicate n e) then ins (.bldV sz ((Ac P e).getD 0)) (Af ((List.range (List.replicate n e).length).map fun i => match (List.replicate n e)[i]? with
       | some t => Dr P t parts.toList i
       | none => none)) else none
     | none => none
   | _ => none
 | .buildSlice t len parts => match P.underlying t with
   | some (.slice e) => match Ac P e with
     | some sz => if C6 (parts.toList.map (·.1)) && parts.toList.all (fun p => decide (p.1 < len)) && decide (0 < sz) && decide (len * sz ≤ 16777216) && decide ((A2 P e).map List.length = some sz) then ins (.bsl sz) (Af ((List.range (List.replicate len e).length).map fun i => match (List.replicate len e)[i]? with
       | some t => Dr P t parts.toList i
       | none => none)) else none
     | none => none
   | _ => none
 | .load t a => match Ac P t, Cc P t with
   | some sz, some ag => if sz = 0 then none else ins (.ld sz ag) (Aj [a])
   | _, _ => none
 | .store t a x => match Ac P t with
   | some sz => ins (.sto sz) (Aj [a, x])
   | none => none
 | .nilCheck x => ins .nilc (Aj [x])
 | .binOp op t x y _ => match P.underlying t with
   | some (.int _) => ins (.bin op) (Aj [x, y])
   | some .string => ins (.bin op) (Aj [x, y])
   | some .bool => ins (.binB op) (Aj [x, y])
   | some (.slice _) => match Ov y, op with
     | true, .eql => ins (.eqn false) (Aj [x])
     | true, .neq => ins (.eqn true) (Aj [x])
     | _, _ => none
   | some (.pointer _) => match Ot y, op with
     | true, .eql => ins (.eqv false []) (Aj [x])
     | true, .neq => ins (.eqv true []) (Aj [x])
     | _, _ => none
   | some (.func _ _ _) => match Ou y, op with
     | true, .eql => ins (.eqv false [.other]) (Aj [x])
     | true, .neq => ins (.eqv true [.other]) (Aj [x])
     | _, _ => none
   | some (.struct _) | some (.array _ _) => if P.eqGuardType P.depth t then none else match Er P 20 t, op with
     | some ks, .eql => ins (.eqv false ks) (Aj [x, y])
     | some ks, .neq => ins (.eqv true ks) (Aj [x, y])
     | _, _ => none
   | _ => none
 | .unOp op _ x => ins (.un op) (Aj [x])
 | .convert src dst x => match P.underlying src, P.underlying dst with
   | some (.int _), some (.int k) => ins (.cvI k) (Aj [x])
   | some (.int _), some .string => ins .r2s (Aj [x])
   | some .string, some .string => ins .cvS (Aj [x])
   | some .string, some (.slice e) => if W8 P e then ins .s2b (Aj [x]) else none
   | some (.slice e), some .string => if W8 P e then ins .b2s (Aj [x]) else none
   | some (.slice e), some (.slice _) => if src == dst && W8 P e then ins .b2b (Aj [x]) else none
   | _, _ => none
 | .range t x => match P.underlying t with
   | some .string => ins .rgs (Aj [x])
   | _ => none
 | .next x b => if b then ins .nxs (Aj [x]) else none
 | .makeFunc fn first cap => if first.size = 0 then ins (.mkf fn) (Aj cap.toList) else none
 | .makeSlice t l c => match P.underlying t with
   | some (.slice e) => match A2 P e, Dn P e, Ac P e with
     | some z, some b, some sz => if 0 < b ∧ 0 < sz ∧ z.length = sz then ins (.mks z b) (Aj [l, c]) else none
     | _, _, _ => none
   | _ => none
 | .slice t x lo hi mx => match P.underlying t with
   | some .string => if mx.isSome then none else ins (.sls lo.isSome hi.isSome) (Aj (x :: (lo.toList ++ hi.toList)))
   | some (.slice e) => match Ac P e with
     | some sz => if mx.isSome && !hi.isSome then none else ins (.slc sz lo.isSome hi.isSome mx.isSome) (Aj (x :: (lo.toList ++ hi.toList ++ mx.toList)))
     | none => none
   | _ => none
 | .fieldAddr t x f => match P.underlying t with
   | some (.struct fs) => match fs[f]? with
     | some f => if (Ac P f.type).getD 0 = 0 then none else ins (.fa f.offset) (Aj [x])
     | none => none
   | _ => none
 | .field t x f => match P.underlying t with
   | some (.struct fs) => match fs[f]? with
     | some f => match Ac P f.type, Cc P f.type with
       | some sz, some ag => if sz = 0 then none else ins (.fld f.offset sz ag) (Aj [x])
       | _, _ => none
     | none => none
   | _ => none
 | .indexAddr t x i => match P.underlying t with
   | some (.slice e) => match Ac P e with
     | some sz => ins (.iaS sz) (Aj [x, i])
     | none => none
   | some (.array n e) => match Ac P e, Iw i with
     | some sz, some j => if 0 ≤ j ∧ j < n ∧ 1 < n then ins (.iaC (j.toNat * sz)) (Aj [x]) else none
     | some sz, none => if 1 < n then ins (.iaA n sz) (Aj [x, i]) else none
     | none, _ => none
   | _ => none
 | .index t x i => match P.underlying t with
   | some .string => ins .ixS (Aj [x, i])
   | some (.array n e) => match Ac P e, Cc P e, Iw i with
     | some sz, some ag, some j => if 0 ≤ j ∧ j < n ∧ 0 < sz then ins (.fld (j.toNat * sz) sz ag) (Aj [x]) else none
     | some sz, some ag, none => if sz = 0 then none else ins (.ixA n sz ag) (Aj [x, i])
     | _, _, _ => none
   | _ => none
 | .extract x k => ins (.ext k) (Aj [x])
 | .call c => match c.callee with
   | .value (.func f) => ins (.call f) (Aj c.args.toList)
   | .value x => ins .callv (Aj (x :: c.args.toList))
   | .builtin .len => match c.argTypes.toList with
     | t :: _ => match P.underlying t with
       | some .string => ins .lenS (Aj c.args.toList)
       | some (.slice _) => ins .len (Aj c.args.toList)
       | _ => none
     | [] => none
   | .builtin .append => match c.argTypes.toList with
     | [t, u] => match P.underlying t with
       | some (.slice e) => if Xa P u then match Ac P e, Dn P e, A2 P e with
         | some sz, some b, some z => if 0 < b ∧ b ≤ 1048576 ∧ 0 < sz ∧ z.length = sz then ins (.app sz b) (Aj c.args.toList) else none
         | _, _, _ => none
         else if Ru P u then match Ac P e, Dn P e, A2 P e with
         | some sz, some b, some z => if 0 < b ∧ b ≤ 1048576 ∧ 0 < sz ∧ z.length = sz then ins (.apz sz b z) (Aj c.args.toList) else none
         | _, _, _ => none
         else none
       | _ => none
     | _ => none
   | .builtin .cap => match c.argTypes.toList with
     | [t] => match P.underlying t with
       | some (.slice _) => ins .cap (Aj c.args.toList)
       | _ => none
     | _ => none
   | .builtin .copy => match c.argTypes.toList with
     | [t, _] => match P.underlying t with
       | some (.slice e) => match Ac P e with
         | some sz => if 0 < sz then ins (.cpy sz) (Aj c.args.toList) else none
         | _ => none
       | _ => none
     | _ => none
   | .builtin .clear => match c.argTypes.toList with
     | [t] => match P.underlying t with
       | some (.slice e) => match Ac P e, A2 P e with
         | some sz, some z => if 0 < sz ∧ z.length = sz then ins (.clr sz z) (Aj c.args.toList) else none
         | _, _ => none
       | _ => none
     | _ => none
   | .builtin .max => if c.args.size = 2 then ins .mx (Aj c.args.toList) else none
   | .builtin .min => if c.args.size = 2 then ins .mn (Aj c.args.toList) else none
   | _ => none
 | _ => none
def Xb (P : Program) (o : Oper) : Bool := match o.op with
 | .call c => match c.callee with
   | .builtin .copy => true
   | .builtin .clear => true
   | .builtin .append => match c.argTypes.toList with
     | [_, u] => Ru P u
     | _ => false
   | .value (.func f) => match P.funcs[f]? with
     | some fn => fn.body.isNone
     | none => false
   | _ => false
 | _ => false
def Nl (o : Oper) : Bool := match o.op with
 | .slice _ _ _ _ _ => true
 | _ => false
def Aco (ops : Array Oper) (x : Operand) : Bool := match x with
 | .tmp d => ops.toList.any fun o => Nl o && o.dst == some d
 | _ => false
def Aj1 (ops : Array Oper) : Bool := ops.toList.any fun o => match o.op with
 | .call c => match c.callee, c.args.toList with
   | .builtin .append, [x, y] => Aco ops x && Aco ops y
   | _, _ => false
 | _ => false
def Acl (P : Program) (ops : Array Oper) : Bool := ops.toList.any (Xb P) || Aj1 ops || (match ops.toList.getLast? with
 | some o => Nl o
 | none => false)
def Acp (ops : Array Oper) : Bool := ops.toList.any fun o => match o.op, o.dst with
 | .assign _, some d => ops.toList.any fun q => match q.op with
   | .move (.tmp e) => d == e
   | _ => false
 | _, _ => false
def Fx (v x : Bool) : Kd → Kd
 | .slc sz lo hi false => if v then .slv sz lo hi else if x && hi && !lo then .slx sz else .slc sz lo hi false
 | .slc sz true true true => if v then .slx sz else .slc sz true true true
 | k => k
def Agk (v x : Bool) (i : I) : I := ⟨Fx v x i.k, i.x, i.d, i.g⟩
def Rw (P : Program) (N : Nat) (ops : Array Oper) (o : Oper) : Option I :=
 if o.dst.any (fun d => decide (N ≤ d) || decide (D2 ≤ d)) then none else
 match E9 P o with
 | some (k, x) => match o.guard with
   | none => some ⟨k, x, o.dst, none⟩
   | some (j, w) => match (ops[j]?).bind (·.dst) with
     | some t => some ⟨k, x, o.dst, some (t, w)⟩
     | none => none
 | none => none
def Fa (P : Program) (N : Nat) (ops : Array Oper) (o : Oper) : Option I := (Rw P N ops o).map (Agk (Acl P ops) (Acp ops))
def Iv (o : Oper) : List Nat := (o.after.toList.filter (Region.binds .any)).map (·.on)
def Pc (ops : Array Oper) : Nat → Nat → List Nat
 | 0, _ => []
 | n + 1, j => match ops[j]? with
   | some o => Iv o ++ ((Iv o).map (Pc ops n)).flatten
   | none => []
def nd : Kd → Bool
 | .eqn _ => true
 | .cap => true
 | .slx _ => true
 | .yv => true
 | .clr _ _ => true
 | .rgs => true
 | .nxs => true
 | _ => false
def Dm : Kd → Nat
 | .mv | .pick | .bld _ | .bldV _ _ | .bin _ | .binB _ | .eqv _ _ | .un _ | .cvI _ | .r2s | .cvS | .sls _ _ | .fa _ | .iaA _ _ | .iaC _ | .fld _ _ _ | .ixA _ _ _ | .ixS | .ext _ | .lenS | .mx | .mn | .mkf _ | .nilc => 0
 | .sto _ | .app _ _ | .cap | .cpy _ | .slx _ | .clr _ _ | .nxs => 2
 | _ => 1
def Ahf : Kd → Bool
 | .new _ | .box | .bsl _ | .s2b | .mks _ _ | .call _ | .callv | .app _ _ | .apz _ _ _ | .slx _ | .rgs => true
 | _ => false
def R8 : SV → Bool
 | .pv _ => true
 | .vec _ _ => true
 | _ => false
def Cf : Opd → Bool
 | .t _ => true
 | .c (.pv _) => true
 | .c (.vec _ _) => true
 | .c (.agg l) => l.all R8
 | .c (.fn _ []) => true
 | _ => false
def news (l : List I) : List Nat := (l.filter fun i => Ahf i.k).filterMap (·.d)
def Bh (i : I) : List Nat := (i.x.filterMap fun | .t n => some n | _ => none) ++ (match i.g with
 | some (j, _) => [j]
 | none => [])
def Sj (i j : I) : Bool := (match i.d with
 | some d => !(Bh j).contains d && decide (j.d ≠ some d)
 | none => true) && (match j.d with
 | some d => !(Bh i).contains d
 | none => true) && decide (Dm i.k + Dm j.k ≤ 2) && (Dm i.k != 2 || Dm j.k == 0) && (Dm j.k != 2 || Dm i.k == 0)
def Dc (ops : Array Oper) (l : List I) (j : Nat) : Bool := match l[j]? with
 | some i => (match i.k with
   | .bsl _ => true
   | .call _ => true
   | _ => false) && (((List.range j).all fun a => (Pc ops 6 j).contains a) && ((List.range l.length).all fun k => decide (k ≤ j) || (Pc ops 6 k).contains j))
 | none => false
def Ng (ops : Array Oper) (l : List I) (j : Nat) : Bool := match l[j]? with
 | some i => (match i.k with
   | .call _ => true
   | _ => false) && ((List.range l.length).all fun k => decide (k = j) || (Pc ops 6 j).contains k || (Pc ops 6 k).contains j || match l[k]? with
     | some z => Dm z.k == 0
     | none => true)
 | none => false
def My (ops : Array Oper) (l : List I) (j : Nat) (i : I) : Nat := if Ng ops l j then 2 else Dm i.k
def clA (ops : Array Oper) (l : List I) (j : Nat) (i : I) : Nat := if Dc ops l j then 3 else My ops l j i
def Yn (ops : Array Oper) (l : List I) : Bool :=
 C6 (l.filterMap (·.d)) && l.all (fun i => !nd i.k) && (news l).all (fun d => decide (d < 1000000000)) && (List.range l.length).all fun j => match ops[j]?, l[j]? with
  | some o, some y => (Iv o).all (fun e => decide (e < j)) && y.x.all Cf && (List.range j).all fun i => (match l[i]? with
    | some z => (Iv o).contains i || Dc ops l i || Dc ops l j || Sj z y || (Pc ops 4 j).contains i
    | none => false)
  | _, _ => false
def Ma (ops : Array Oper) (l : List I) (D : List Nat) (j : Nat) : List Nat := match ops[j]? with
 | some o => D.filter fun d => !(Iv o).any fun k => match l[k]? with
   | some i => decide (i.d = some d)
   | none => false
 | none => D
def G8 (ops : Array Oper) (l : List I) (D : List Nat) : Nat → List I → List (I × Nat × List Nat)
 | _, [] => []
 | k, i :: r => (i, clA ops l k i, Ma ops l D k) :: G8 ops l D (k + 1) r
def C2 : Kd → Nat
 | .call _ => 2
 | .callv => 2
 | .bsl _ => 2
 | k => Dm k
def Jf (ops : Array Oper) (i j : Nat) : Bool := (Pc ops 8 j).contains i
def Lb (i j : I) : Bool := (match i.d with
 | some d => !(Bh j).contains d && decide (j.d ≠ some d)
 | none => true) && (match j.d with
 | some d => !(Bh i).contains d
 | none => true)
def Eu (i j : I) : Bool := C2 i.k != 0 && C2 j.k != 0 && (C2 i.k == 2 || C2 j.k == 2)
def Og (ops : Array Oper) (l : List I) (j : Nat) : List Nat := match l[j]? with
 | some z => (List.range j).filter fun i => !Jf ops i j && match l[i]? with
   | some y => Eu y z
   | none => false
 | none => []
def Sk (ops : Array Oper) (l : List I) : Bool :=
 C6 (l.filterMap (·.d)) && l.all (fun i => !nd i.k) && (news l).all (fun d => decide (d < 1000000000)) && (List.range l.length).all fun j => match ops[j]?, l[j]? with
  | some o, some y => (Iv o).all (fun e => decide (e < j)) && y.x.all Cf && (List.range j).all fun i => (match l[i]? with
    | some z => Jf ops i j || Lb z y
    | none => false)
  | _, _ => false
def Yo (ops : Array Oper) (l : List I) (D : List Nat) : Nat → List I → List (I × Nat × List Nat × List Nat × Nat)
 | _, [] => []
 | k, i :: r => (i, C2 i.k, Ma ops l D k, Og ops l k, k) :: Yo ops l D (k + 1) r
def Tp (i : I) : I := match i.k with
 | .callv => ⟨.yv, i.x, i.d, i.g⟩
 | _ => i
def Aq (P : Program) (N : Nat) : Code → Option C
 | .skip => some .skip
 | .region _ ops drawn => match Af (ops.toList.map (Fa P N ops)) with
   | some l => if drawn then (if Yn ops l then some (if l.any (fun i => match i.k with | .slc _ _ _ _ => true | _ => false) then .anyF (news l) (G8 ops l (news l) 0 l) else .any (news l) (G8 ops l (news l) 0 l)) else if Sk ops l then some (.anyP (news l) (Yo ops l (news l) 0 l)) else some .bad) else some (.ops (l.map Tp))
   | none => some .bad
 | .seq a b => match Aq P N a, Aq P N b with
   | some a, some b => some (.seq a b)
   | _, _ => none
 | .cond c a b => match An c, Aq P N a, Aq P N b with
   | some c, some a, some b => some (.ite c a b)
   | _, _, _ => none
 | .block id a => (Aq P N a).map (.block id)
 | .loop a => (Aq P N a).map .loop
 | .exit id => some (.exit id)
 | .ret => some .ret
 | .scope a => Aq P N a
 | .label _ => some .skip
 | .rangeFunc g ps a b => match An g, Aq P N a, Aq P N b with
   | some g, some a, some b => if ps.toList.all (fun p => decide (p < N) && decide (p < D2)) then some (.rng g ps.toList a b) else some .bad
   | _, _, _ => none
 | _ => some .bad
end Go.Proofs.Ytdikcfjpcgapaaa.Fw
namespace Go.Proofs.Ytdikcfjpcgapaaa.Fw
variable (E : Env)
def Kb (d : Option Nat) (l : List I) (Q : A5) (s : FS) : KK := fun x u => S0 E l Q (s.apply d x u)
def Nw (D : List Nat) (c : Nat) (d : Option Nat) (l : List (I × Nat × List Nat)) (Q : A5) (s : FS) : KK := fun x u => Wo D c (d.getD 1000000000) x u ∧ Vv E l Q (s.apply d x u)
def Sz (b : C) (Q : A5) : A5 := Acm (sx E b Q) Q
def Aa2 (x : SV) (a b : C) (Q : A5) (s : FS) : Prop := match x with
 | .pv (.b p) => if p = true then sx E a Q s else sx E b Q s
 | _ => False
def L0 (x : SV) (w : Bool) (k : Kd) (ops : List Opd) (d : Option Nat) (l : List I) (Q : A5) (s : FS) : Prop :=
 Et x w (body E k ops (d.getD 0) s (Kb E d l Q s)) (S0 E l Q (s.apply d (.tup []) []))
theorem Tn (n args s d K) : yvK E (.fn (.yield n) [] :: args) s d K = E.yld n args K s := (rfl)
theorem Aae (f cap ps a b Q s) : Aaf E (.fn (.func f) cap) ps a b Q s = E.rng f cap ps a b Q s := (rfl)
theorem Ya (d sz es u K) : Du d sz (some (es, u)) K = ((∀ c ∈ es, c.length = sz) ∧ K (.os d) (u ++ [.new d (.row sz es)])) := (rfl)
theorem W5 (es K) : Fm (some es) K = K (.pv (.i .i64 es.length)) [] := (rfl)
theorem Yh (es K) : Fv (some es) K = Mx es K := (rfl)
theorem Xi (sz' es sz j n K) : Jm (some (.row sz' es)) sz j n K = (0 ≤ j ∧ j < es.length ∧ sz = sz' ∧ K (.pr n sz j.toNat 0) []) := (rfl)
theorem Ahj (x off size ag K) : ldV (some (.var x)) off size ag K = Hg x off size ag K := (rfl)
theorem Ahk (sz' sz es i off size ag K) : ldR (some (.row sz es)) sz' i off size ag K = (sz' = sz ∧ LoadK es[i]? off size ag K) := (rfl)
theorem Agp (x n off size y K) : stV (some (.var x)) n off size y K = (y.width = size ∧ y.flatB = true ∧ M8 n x off size y K) := (rfl)
theorem Vw (ys n sz' i off size es K) : Ja (some ys) n sz' i off size es K = (i < es.length ∧ off + size ≤ sz' ∧ K .dead [.upd n (.row sz' (es.set i (splice (es.getD i []) off ys)))]) := (rfl)
theorem Agq (sz' es n sz i off size y K) : stR (some (.row sz' es)) n sz i off size y K = (y.width = size ∧ y.flatB = true ∧ sz = sz' ∧ Ja y.cells? n sz' i off size es K) := (rfl)
theorem Uj (sz es n) : Kw (some (.row sz es)) n = some ([.sl false sz es], [.del n]) := (rfl)
theorem Xl (a u b v) : Jn (some (a, u)) (some (b, v)) = some (a :: b, u ++ v) := (rfl)
theorem Abt (sz es) : Cy (some (.row sz es)) = some es := (rfl)
theorem Yl (sz' es ys z d sz bytes n K) : Gq (some (.row sz' es)) (some ys) z d sz bytes n K = (sz = sz' ∧ (ys = [] ∨ z = sz) ∧ (es.length + ys.length) * bytes ≤ 70368744177664 ∧ K (.os d) [.del n, .new d (.row sz (es ++ ys))]) := (rfl)
theorem X5 (d l Q s x u) : Kb E d l Q s x u = S0 E l Q (s.apply d x u) := (rfl)
theorem Zw (Q s) : S0 E [] Q s = Q .normal s := (rfl)
theorem Vt (k x d l Q s) : S0 E (⟨k, x, some d, none⟩ :: l) Q s = body E k x d s (Kb E (some d) l Q s) := (rfl)
theorem Ts (k x l Q s) : S0 E (⟨k, x, none, none⟩ :: l) Q s = body E k x 0 s (Kb E none l Q s) := (rfl)
theorem Tr (k x d j w l Q s) : S0 E (⟨k, x, d, some (j, w)⟩ :: l) Q s = L0 E (s.t j) w k x d l Q s := (rfl)
theorem Uh (k x d l Q s) : L0 E (.pv (.b true)) true k x (some d) l Q s = body E k x d s (Kb E (some d) l Q s) := by simp [L0, Et]
theorem Ui (k x d l Q s) : L0 E (.pv (.b false)) false k x (some d) l Q s = body E k x d s (Kb E (some d) l Q s) := by simp [L0, Et]
theorem Zr (b Q s) : Sz E b Q .normal s = sx E b Q s := (rfl)
theorem Zs (b Q i s) : Sz E b Q (.exit i) s = Q (.exit i) s := (rfl)
theorem Zq (b Q s) : Sz E b Q .ret s = Q .ret s := (rfl)
theorem Aa6 (i Q s) : Nm i Q .normal s = Q .normal s := (rfl)
theorem Aa5 (i Q s) : Nm i Q .ret s = Q .ret s := (rfl)
theorem Aa7 (i j Q s) : Nm i Q (.exit j) s = if j = i then Q .normal s else Q (.exit j) s := (rfl)
theorem Adb (D l Q s) : sx E (.any D l) Q s = Vv E.reg l Q (killD D s) := (rfl)
theorem T9 (s) : killD [] s = s := (rfl)
theorem X6 (D c d l Q s x u) : Nw E D c d l Q s x u = (Wo D c (d.getD 1000000000) x u ∧ Vv E l Q (s.apply d x u)) := (rfl)
theorem Zx (Q s) : Vv E [] Q s = Q .normal s := (rfl)
theorem Vu (D c k x d l Q s) : Vv E ((⟨k, x, some d, none⟩, c, D) :: l) Q s = body E k x d s (Nw E D c (some d) l Q s) := (rfl)
theorem Agz (D d x u) : Wo D 0 d x u = (noD d x D ∧ u = []) := (rfl)
theorem Agy (D d x u) : Wo D 1 d x u = (noD d x D ∧ Ep D d u) := (rfl)
theorem Aao (d x) : noD d x [] = True := (rfl)
theorem Rl (D d) : Ep D d [] = True := (rfl)
theorem Ac6 (a b Q s) : sx E (.seq a b) Q s = sx E a (Sz E b Q) s := (rfl)
theorem Ac9 (l Q s) : sx E (.ops l) Q s = S0 E l Q s := (rfl)
theorem Vs (i a Q s) : sx E (.block i a) Q s = sx E a (Nm i Q) s := (rfl)
theorem Zv (i Q s) : sx E (.exit i) Q s = Q (.exit i) s := (rfl)
theorem Ac8 (Q s) : sx E .ret Q s = Q .ret s := (rfl)
theorem Zt (Q s) : sx E .skip Q s = Q .normal s := (rfl)
theorem Zu (a Q s) : sx E (.loop a) Q s = E.loop a Q s := (rfl)
theorem Ada (c a b Q s) : sx E (.ite c a b) Q s = Aa2 E (s.ev c) a b Q s := (rfl)
theorem Aet (a b Q s) : Aa2 E (.pv (.b true)) a b Q s = sx E a Q s := (rfl)
theorem Aeu (a b Q s) : Aa2 E (.pv (.b false)) a b Q s = sx E b Q s := by simp [Aa2]
theorem Ab9 (s d x u) : FS.apply s (some d) x u = (s.hup u).set d x := (rfl)
theorem Aca (s x u) : FS.apply s none x u = s.hup u := (rfl)
theorem Abb (s) : FS.hup s [] = s := (rfl)
theorem Abc (s n b u) : FS.hup s (.new n b :: u) = ((s.kill n).seth n (some b)).hup u := (rfl)
theorem Aa9 (s n b u) : FS.hup s (.upd n b :: u) = (s.seth n (some b)).hup u := (rfl)
theorem Abd (s n u) : FS.hup s (.del n :: u) = (s.seth n none).hup u := (rfl)
theorem Xu (n v) : Oy n v [] = [] := (rfl)
theorem Um (n v j x l) : Oy n v ((j, x) :: l) = (j, x.frz n v) :: Oy n v l := (rfl)
theorem Xv (n v) : Hb n v [] = [] := (rfl)
theorem Uo (n v j x l) : Hb n v ((j, some x) :: l) = (if j = n then (j, none) else (j, some (x.frz n v))) :: Hb n v l := (rfl)
theorem Un (n v j l) : Hb n v ((j, none) :: l) = (j, none) :: Hb n v l := (rfl)
theorem Ajv (n v x) : SV.frz n v (.pv x) = .pv x := (rfl)
theorem f_p (n v m o) : SV.frz n v (.p m o) = .p m o := (rfl)
theorem Ajw (n v m) : SV.frz n v (.os m) = if n = m then .pv v else .os m := (rfl)
theorem Ajx (n v f l) : SV.frz n v (.fn f l) = .fn f (SV.frzL n v l) := (rfl)
theorem Ae8 (n v) : SV.frzL n v [] = [] := (rfl)
theorem Abo (n v x l) : SV.frzL n v (x :: l) = SV.frz n v x :: SV.frzL n v l := (rfl)
theorem Ae5 (n v x) : Blk.frz n v (.var x) = .var (x.frz n v) := (rfl)
theorem Ae6 (n v a b) : Blk.frz n v (.row a b) = .row a b := (rfl)
theorem Ah2 (t h n) : (mk t h).ev (.t n) = lk .dead n t := (rfl)
theorem Ai7 (t h n) : (mk t h).t n = lk .dead n t := (rfl)
theorem Ah3 (s x) : FS.ev s (.c x) = x := (rfl)
theorem Aht (t h n) : (mk t h).h n = lk none n h := (rfl)
theorem Aee {α} (d : α) (k) : lk d k [] = d := (rfl)
theorem Aau {α} (d : α) (k j x l) : lk d k ((j, x) :: l) = if k = j then x else lk d k l := (rfl)
theorem T7 (n) : Gh n [] = [] := (rfl)
theorem Rr (n j x l) : Gh n ((j, x) :: l) = (j, x.kill n) :: Gh n l := (rfl)
theorem T8 (n) : D7 n [] = [] := (rfl)
theorem Rt (n j x l) : D7 n ((j, some x) :: l) = (j, some (x.kill n)) :: D7 n l := (rfl)
theorem Rs (n j l) : D7 n ((j, none) :: l) = (j, none) :: D7 n l := (rfl)
theorem Ajn (n x) : SV.kill n (.pv x) = .pv x := (rfl)
theorem Ajo (n a b c d) : SV.kill n (.pi a b c d) = .pi a b c d := (rfl)
theorem k_p (n m o) : SV.kill n (.p m o) = if n = m then .dead else .p m o := (rfl)
theorem Ajp (n m) : SV.kill n (.os m) = if n = m then .dead else .os m := (rfl)
theorem Ahm (n l) : SV.kill n (.tup l) = .tup (SV.killL n l) := (rfl)
theorem Ajr (n f l) : SV.kill n (.fn f l) = .fn f (SV.killL n l) := (rfl)
theorem Aeq (n) : SV.killL n [] = [] := (rfl)
theorem Aa1 (n x l) : SV.killL n (x :: l) = SV.kill n x :: SV.killL n l := (rfl)
theorem Aeo (n x) : Blk.kill n (.var x) = .var (x.kill n) := (rfl)
theorem Aep (n a b) : Blk.kill n (.row a b) = .row a b := (rfl)
theorem Abp (s) : Ax s [] = [] := (rfl)
theorem Xx (s x l) : Ax s (x :: l) = s.ev x :: Ax s l := (rfl)
theorem U2 (f x d s K) : body E (.call f) x d s K = Mb E f (Ax s x) s.h d K := (rfl)
theorem Ab1 (x d s K) : body E .yv x d s K = yvK E (Ax s x) s d K := (rfl)
theorem Ac7 (g ps a b Q s) : sx E (.rng g ps a b) Q s = Aaf E (s.ev g) ps a b Q s := (rfl)
theorem Aba (s t h u) : FS.hup s (.set t h :: u) = FS.hup ⟨t, h⟩ u := (rfl)
theorem Aj5  (x d s K) : body E (.mv) x d s K = Ah d s.h (.mv) (Ax s x) K := (rfl)
theorem Afz  (x d s K) : body E (.pick) x d s K = Ah d s.h (.pick) (Ax s x) K := (rfl)
theorem Aif (z) (x d s K) : body E (.new z) x d s K = Ah d s.h (.new z) (Ax s x) K := (rfl)
theorem Aim  (x d s K) : body E (.box) x d s K = Ah d s.h (.box) (Ax s x) K := (rfl)
theorem Ail (n) (x d s K) : body E (.bsl n) x d s K = Ah d s.h (.bsl n) (Ax s x) K := (rfl)
theorem Aj7 (n a) (x d s K) : body E (.ld n a) x d s K = Ah d s.h (.ld n a) (Ax s x) K := (rfl)
theorem Aid (n) (x d s K) : body E (.sto n) x d s K = Ah d s.h (.sto n) (Ax s x) K := (rfl)
theorem Ain (o) (x d s K) : body E (.bin o) x d s K = Ah d s.h (.bin o) (Ax s x) K := (rfl)
theorem Aj4 (o) (x d s K) : body E (.un o) x d s K = Ah d s.h (.un o) (Ax s x) K := (rfl)
theorem Aik (k) (x d s K) : body E (.cvI k) x d s K = Ah d s.h (.cvI k) (Ax s x) K := (rfl)
theorem Aio  (x d s K) : body E (.b2s) x d s K = Ah d s.h (.b2s) (Ax s x) K := (rfl)
theorem Aip  (x d s K) : body E (.b2b) x d s K = Ah d s.h (.b2b) (Ax s x) K := (rfl)
theorem Aie (z) (a b c) (x d s K) : body E (.slc z a b c) x d s K = Ah d s.h (.slc z a b c) (Ax s x) K := (rfl)
theorem Aii (n) (x d s K) : body E (.iaS n) x d s K = Ah d s.h (.iaS n) (Ax s x) K := (rfl)
theorem Aij (n) (x d s K) : body E (.ext n) x d s K = Ah d s.h (.ext n) (Ax s x) K := (rfl)
theorem Aih  (x d s K) : body E (.len) x d s K = Ah d s.h (.len) (Ax s x) K := (rfl)
theorem Aiq (a b) (x d s K) : body E (.app a b) x d s K = Ah d s.h (.app a b) (Ax s x) K := (rfl)
theorem Aj6  (x d s K) : body E (.mn) x d s K = Ah d s.h (.mn) (Ax s x) K := (rfl)
theorem Aig (fn) (x d s K) : body E (.mkf fn) x d s K = Ah d s.h (.mkf fn) (Ax s x) K := (rfl)
theorem Aji (d h x K) : Ah d h .mv [x] K = K x [] := (rfl)
theorem Ad9 (d h c x y K) : Ah d h .pick [c, x, y] K = Eh c x y K := (rfl)
theorem Ad6 (x y K) : Eh (.pv (.b true)) x y K = K x [] := (rfl)
theorem Ad7 (x y K) : Eh (.pv (.b false)) x y K = K y [] := (rfl)
theorem Ag2 (d h z K) : Ah d h (.new z) [] K = K (.p d 0) [.new d (.var z)] := (rfl)
theorem Ag8 (d h x K) : Ah d h .box [x] K = (x.flatB = true ∧ K (.p d 0) [.new d (.var (x.kill d))]) := (rfl)
theorem Ag7 (d h n l K) : Ah d h (.bsl n) l K = Km h d n l K := (rfl)
theorem Afl (h d n K) : Km h d n [] K = Du d n (Cs h []) K := (rfl)
theorem Afk (h d n x y l K) : Km h d n (x :: y :: l) K = Du d n (Cs h (x :: y :: l)) K := by cases x <;> rfl
theorem Aby (h d n x K) : Km h d n [.pv x] K = Du d n (Cs h [.pv x]) K := (rfl)
theorem Abz (h d n x K) : Km h d n [.os x] K = Qs (h x) x d n (Du d n (Cs h [.os x]) K) K := (rfl)
theorem Ajk (d h n a x K) : Ah d h (.ld n a) [x] K = Dk h n a x K := (rfl)
theorem Ag0 (d h n x y K) : Ah d h (.sto n) [x, y] K = Ez h n x y K := (rfl)
theorem Ag9 (d h o x y K) : Ah d h (.bin o) [x, y] K = Gp o x y K := (rfl)
theorem Ajh (d h o x K) : Ah d h (.un o) [x] K = K9 o x K := (rfl)
theorem Ac3 (x K) : K9 .not (.pv (.b x)) K = K (.pv (.b !x)) [] := (rfl)
theorem Ag6 (d h k j n K) : Ah d h (.cvI k) [.pv (.i j n)] K = K (.pv (.i k (k.wrap n))) [] := (rfl)
theorem Ws (d h a b c K) : Ah d h .b2s [.pv (.sl a b c)] K = Fv (some c) K := (rfl)
theorem Wt (d h n K) : Ah d h .b2s [.os n] K = Fv (Cy (h n)) K := (rfl)
theorem Aha (d h n K) : Ah d h .b2b [.os n] K = H1 (h n) n K := (rfl)
theorem Ag1 (d h z a b c x l K) : Ah d h (.slc z a b c) (x :: l) K = Jb x h z a b c l (Ba h x) K := (rfl)
theorem Ag4 (d h n a k j K) : Ah d h (.iaS n) [a, .pv (.i k j)] K = Es h n j a K := (rfl)
theorem Aew (h n j f m es K) : Es h n j (.pv (.sl f m es)) K = (0 ≤ j ∧ j < es.length ∧ n = m ∧ K (.pi n es j.toNat 0) []) := (rfl)
theorem Aex (h n j m K) : Es h n j (.os m) K = Jm (h m) n j m K := (rfl)
theorem Ajm (h z a n o K) : Dk h z a (.p n o) K = ldV (h n) o z a K := (rfl)
theorem Ahg (h z a n m i o K) : Dk h z a (.pr n m i o) K = ldR (h n) m i o z a K := (rfl)
theorem Ahh (h z a m es i o K) : Dk h z a (.pi m es i o) K = LoadK es[i]? o z a K := (rfl)
theorem Aaw (x off size ag K) : Hg x off size ag K = Ro (Vm x.segs off size) ag x.cells? off size K := (rfl)
theorem Wz (x c off size K) : Ro (some [.pv x]) false c off size K = K (.pv x) [] := (rfl)
theorem Abv (o s) : Vm [] o s = if o = 0 ∧ s = 0 then some [] else none := (rfl)
theorem X4 (x l o s) : Vm (x :: l) o s = if o = 0 then if s = 0 then some [] else if x.width ≤ s then (Vm l 0 (s - x.width)).map (x :: ·) else none else if x.width ≤ o then Vm l (o - x.width) s else none := (rfl)
theorem Ai4 (x) : SV.width (.pv x) = 1 := (rfl)
theorem Agr (x) : SV.segs (.pv x) = [.pv x] := (rfl)
theorem Ai5 (x) : SV.width (.os x) = 1 := (rfl)
theorem Aj2 (x) : SV.cells? (.pv x) = some [x] := (rfl)
theorem Ai8 (h z n o y K) : Ez h z (.p n o) y K = stV (h n) n o z y K := (rfl)
theorem Agm (h z n m i o y K) : Ez h z (.pr n m i o) y K = stR (h n) n m i o z y K := (rfl)
theorem Zy (n x off size y K) : M8 n x off size y K = if off = 0 ∧ size = x.width then K .dead [.upd n (.var y)] else Po (spl x.segs off size y.segs) n x.width off size x.cells? y.cells? K := (rfl)
theorem Ajt (h n) : M5 h (.os n) = Kw (h n) n := (rfl)
theorem Ajs (h x) : M5 h (.pv x) = some ([x], []) := (rfl)
theorem Ae3 (h) : Cs h [] = some ([], []) := (rfl)
theorem Abf (h x l) : Cs h (x :: l) = Jn (M5 h x) (Cs h l) := (rfl)
theorem Ajz (h a b c) : Ba h (.pv (.sl a b c)) = some c := (rfl)
theorem Aj0 (h n) : Ba h (.os n) = Cy (h n) := (rfl)
theorem Ahb (d h a b x y K) : Ah d h (.app a b) [x, y] K = Db h d a b x y K := (rfl)
theorem Af3 (h d a b n y K) : Db h d a b (.os n) y K = Gq (h n) (Ba h y) (Ec h y) d a b n K := (rfl)
theorem Af5 (h d a b n y K) : Db h d a b (.nt n 0) (.nt y 0) K = Mp (h n) (h y) n y d a b K := (rfl)
theorem Ag5 (d h k l K) : Ah d h (.ext k) [.tup l] K = R2 (nth l k) K := (rfl)
theorem Wp (d h a b c K) : Ah d h .len [.pv (.sl a b c)] K = Fm (some c) K := (rfl)
theorem Wq (d h n K) : Ah d h .len [.os n] K = Fm (Cy (h n)) K := (rfl)
theorem Ajj (d h x y K) : Ah d h .mn [x, y] K = Hf false x y K := (rfl)
theorem Ajl (k a j b K) : Hf false (.pv (.i k a)) (.pv (.i j b)) K = (k = j ∧ K (.pv (.i k (min a b))) []) := (rfl)
theorem Ag3 (d h f l K) : Ah d h (.mkf f) l K = K (.fn f l) [] := (rfl)
theorem Aib (o k a j b K) : Gp o (.pv (.i k a)) (.pv (.i j b)) K = Hc o k j a b K := (rfl)
theorem Aia (o a b K) : Gp o (.pv (.s a)) (.pv (.s b)) K = Qw o a b K := (rfl)
theorem Afy (k j a b K) : Hc .add k j a b K = (k = j ∧ K (.pv (.i k (k.wrap (a + b)))) []) := (rfl)
theorem Afq (k j a b K) : Hc .sub k j a b K = (k = j ∧ K (.pv (.i k (k.wrap (a - b)))) []) := (rfl)
theorem Afs (k j a b K) : Hc .shl k j a b K = (0 ≤ b ∧ K (.pv (.i k (k.wrap (a * 2 ^ (min b.toNat k.bits))))) []) := (rfl)
theorem Afr (k j a b K) : Hc .shr k j a b K = (0 ≤ b ∧ K (.pv (.i k (a.fdiv (2 ^ (min b.toNat k.bits))))) []) := (rfl)
theorem Aic (k j a b K) : Hc .or k j a b K = (k = j ∧ K (.pv (.i k (bits .or k a b))) []) := (rfl)
theorem Afx (k j a b K) : Hc .eql k j a b K = (k = j ∧ K (.pv (.b (decide (a = b)))) []) := (rfl)
theorem Aft (k j a b K) : Hc .neq k j a b K = (k = j ∧ K (.pv (.b (!decide (a = b)))) []) := (rfl)
theorem Afu (k j a b K) : Hc .lss k j a b K = (k = j ∧ K (.pv (.b (decide (a < b)))) []) := (rfl)
theorem Afv (k j a b K) : Hc .gtr k j a b K = (k = j ∧ K (.pv (.b (decide (b < a)))) []) := (rfl)
theorem Afw (k j a b K) : Hc .geq k j a b K = (k = j ∧ K (.pv (.b (decide (b ≤ a)))) []) := (rfl)
theorem Afn (a b K) : Qw .eql a b K = (K (.pv (.b (decide (a = b)))) []) := (rfl)
theorem Afm (a b K) : Qw .neq a b K = (K (.pv (.b (!decide (a = b)))) []) := (rfl)
theorem Ahx (x) : SV.flatB (.pv x) = true := (rfl)
theorem Ahy (x) : SV.flatB (.os x) = true := (rfl)
theorem Air (sz es n K) : H1 (some (.row sz es)) n K = (sz = 1 ∧ es ≠ [] ∧ K (.os n) []) := (rfl)
theorem Ai2 (h a b c) : Ec h (.pv (.sl a b c)) = b := (rfl)
theorem Ai3 (h n) : Ec h (.os n) = Lm (h n) := (rfl)
theorem Aad (sz es) : Lm (some (.row sz es)) = sz := (rfl)
theorem Afa (x K) : R2 (some x) K = K x [] := (rfl)
theorem Wv (x l k) : nth (x :: l) k = if k = 0 then some x else nth l (k - 1) := (rfl)
theorem Adn (x h z a b c l es K) : Jb x h z a b c l (some es) K = Rf x h z b c es (D8 a 0 l) K := (rfl)
theorem Adm (x h z b c es i l K) : Rf x h z b c es (some (i, l)) K = Re x h z b c es i (D8 b es.length l) K := (rfl)
theorem Adl (x h z b c es i j l K) : Re x h z b c es i (some (j, l)) K = Rd x h z b c es i j (D8 c es.length l) K := (rfl)
theorem Adk (x h z b c es i j m l K) : Rd x h z b c es i j (some (m, l)) K = (0 ≤ i ∧ i ≤ j ∧ j ≤ m ∧ m ≤ es.length ∧ Ki x (h x.nm) z b c i j m es K) := (rfl)
theorem Z8 (f sz es' o z b c i j m es K) : Ki (.pv (.sl f sz es')) o z b c i j m es K = ((es = [] ∨ sz = z) ∧ K (.pv (.sl ((c && decide (m = j)) || (f && !b && !c)) sz ((es.take j.toNat).drop i.toNat))) []) := (rfl)
theorem Ahc (n) : SV.nm (.pv n) = 0 := (rfl)
theorem Ahs (d l) : D8 false d l = some (d, l) := (rfl)
theorem Ahr (d k n l) : D8 true d (.pv (.i k n) :: l) = some (n, l) := (rfl)
end Go.Proofs.Ytdikcfjpcgapaaa.Fw
namespace Go.Proofs.Ytdikcfjpcgapaaa.Fw
abbrev View := Nat → Option (Array Value)
def View.le (V V' : View) : Prop := ∀ b c, V b = some c → V' b = some c
def Al : Value → Prop
 | .agg _ => False
 | .tuple _ => False
 | _ => True
inductive PConc (V : View) : PV → Value → Prop where
 | i (k n) : PConc V (.i k n) (.int k n)
 | b (x) : PConc V (.b x) (.bool x)
 | s (l : List UInt8) : PConc V (.s l) (.string ⟨l.toArray⟩)
 | v (x) (h : Al x) : PConc V (.v x) x
 | sl (full : Bool) (sz : Nat) (es : List (List PV)) (a : Option Addr) (cap : Nat) (cs : Nat → Nat → Value) (bl off : Nat) (arr : Array Value)
    (hcap : es.length ≤ cap) (hfull : full = true → cap = es.length) (hsz : ∀ c ∈ es, c.length = sz)
    (ha : es ≠ [] → a = some ⟨bl, off, none⟩ ∧ V bl = some arr)
    (hcs : ∀ i j, i < es.length → j < sz → arr[off + (i * sz + j)]? = some (cs i j))
    (hel : ∀ i j c x, es[i]? = some c → c[j]? = some x → PConc V x (cs i j)) : PConc V (.sl full sz es) (.slice a es.length cap)
theorem PConc.one {V x v} (h : PConc V x v) : Al v := by
 cases h <;> simp_all [Al]
theorem PConc.mono {V V' : View} (hV : V.le V') {x v} (h : PConc V x v) : PConc V' x v := by
 induction h with
 | i k n => exact .i k n
 | b x => exact .b x
 | s l => exact .s l
 | v x h => exact .v x h
 | sl full sz es a cap cs bl off arr hcap hfull hsz ha hcs hel ih =>
   exact .sl full sz es a cap cs bl off arr hcap hfull hsz (fun h => ⟨(ha h).1, hV _ _ (ha h).2⟩) hcs ih
def PCells (V : View) (cs : List PV) (vs : List Value) : Prop := cs.length = vs.length ∧ ∀ (j : Nat) (x : PV), cs[j]? = some x → ∃ v, vs[j]? = some v ∧ PConc V x v
theorem PCells.mono {V V' : View} (hV : V.le V') {cs vs} (h : PCells V cs vs) : PCells V' cs vs :=
 ⟨h.1, fun j x hx => let ⟨v, a, b⟩ := h.2 j x hx; ⟨v, a, b.mono hV⟩⟩
theorem PCells.nil {V} : PCells V [] [] := ⟨rfl, by simp⟩
theorem PCells.cons {V x v cs vs} (h : PConc V x v) (t : PCells V cs vs) : PCells V (x :: cs) (v :: vs) := by
 refine ⟨by simp [t.1], fun j y hy => ?_⟩;cases j with
 | zero => simp at hy; subst hy; exact ⟨v, rfl, h⟩
 | succ j => exact t.2 j y (by simpa using hy)
theorem PCells.append {V a b u v} (h : PCells V a u) (t : PCells V b v) : PCells V (a ++ b) (u ++ v) := by
 refine ⟨by simp [h.1, t.1], fun j y hy => ?_⟩;by_cases hj : j < a.length
 · rw [List.getElem?_append_left hj] at hy;rw [List.getElem?_append_left (h.1 ▸ hj)]; exact h.2 j y hy
 · rw [List.getElem?_append_right (by omega)] at hy;rw [List.getElem?_append_right (by have := h.1; omega), ← h.1]; exact t.2 _ y hy
theorem PCells.one {V cs vs} (h : PCells V cs vs) : ∀ v ∈ vs, Al v := by
 intro v hv;obtain ⟨j, hj⟩ := List.mem_iff_getElem?.1 hv;have hlt : j < cs.length := by have := (List.getElem?_eq_some_iff.1 hj).1; have := h.1; omega
 obtain ⟨v', h1, h2⟩ := h.2 j cs[j] (List.getElem?_eq_getElem hlt);rw [hj] at h1; cases h1; exact h2.one
def Ag : Value → List Value
 | .agg cs => cs.toList
 | v => [v]
theorem B9 (v : Value) : v.cells.toList = Ag v := by cases v <;> rfl
mutual
def Conc (V : View) (ρ : Nat → Value) : SV → Value → Prop
 | .pv x, v => PConc V x v
 | .vec n cs, v => ∃ vs, v = .agg ⟨vs⟩ ∧ vs.length = n ∧ PCells V cs vs
 | .agg l, v => ∃ vs, v = .agg ⟨vs⟩ ∧ Cells V ρ l vs
 | .tup l, v => ∃ vs, v = .tuple ⟨vs⟩ ∧ ConcL V ρ l vs
 | .p n off, v => ∃ b, ρ n = .pointer (some ⟨b, 0, none⟩) ∧ v = .pointer (some ⟨b, off, none⟩)
 | .ps n off, v => ∃ b, ρ n = .pointer (some ⟨b, 0, none⟩) ∧ v = .pointer (some ⟨b, off, none⟩)
 | .pr n sz i off, v => ∃ b l c, ρ n = .slice (some ⟨b, 0, none⟩) l c ∧ v = .pointer (some ⟨b, i * sz + off, none⟩)
 | .pi sz es i off, v => ∃ b o arr, v = .pointer (some ⟨b, o + (i * sz + off), none⟩) ∧ V b = some arr ∧
    ∀ c, es[i]? = some c → c.length = sz ∧ PCells V c ((arr.toList.drop (o + i * sz)).take sz)
 | .os n, v => v = ρ n ∧ Al v
 | .nt n i, v => ∃ l, ρ n = .tuple ⟨l⟩ ∧ l[i]? = some v ∧ Al v
 | .np n i k, v => ∃ l b len cap, ρ n = .tuple ⟨l⟩ ∧ l[i]? = some (.slice (some ⟨b, 0, none⟩) len cap) ∧ v = .pointer (some ⟨b, k, none⟩)
 | .ov n sz lo hi, v => ∃ base len cap base', ρ n = .slice base len cap ∧ lo ≤ hi ∧ hi ≤ len ∧ v = .slice base' (hi - lo) (cap - lo) ∧ (lo < hi ∨ lo = 0 → base' = base.map (·.add (lo * sz)))
 | .fn f cap, v => ∃ vs, v = .func f #[] ⟨vs⟩ ∧ ConcL V ρ cap vs
 | .dead, _ => True
def ConcL (V : View) (ρ : Nat → Value) : List SV → List Value → Prop
 | [], vs => vs = []
 | x :: l, vs => ∃ u us, vs = u :: us ∧ Conc V ρ x u ∧ ConcL V ρ l us
def Cells (V : View) (ρ : Nat → Value) : List SV → List Value → Prop
 | [], vs => vs = []
 | x :: l, vs => ∃ u us, vs = Ag u ++ us ∧ Conc V ρ x u ∧ (Ag u).length = x.width ∧ (∀ c ∈ Ag u, Al c) ∧ Cells V ρ l us
end
mutual
theorem Conc.mono {V V' : View} (hV : V.le V') {ρ} : ∀ {x v}, Conc V ρ x v → Conc V' ρ x v
 | .pv x, v, h => by simp only [Conc] at *; exact h.mono hV
 | .vec n cs, v, h => by simp only [Conc] at *; obtain ⟨vs, a, b, c⟩ := h; exact ⟨vs, a, b, c.mono hV⟩
 | .agg l, v, h => by simp only [Conc] at *; obtain ⟨vs, a, b⟩ := h; exact ⟨vs, a, Cells.mono hV b⟩
 | .tup l, v, h => by simp only [Conc] at *; obtain ⟨vs, a, b⟩ := h; exact ⟨vs, a, ConcL.mono hV b⟩
 | .p n off, v, h => by simp only [Conc] at *; exact h
 | .ps n off, v, h => by simp only [Conc] at *; exact h
 | .pr n sz i off, v, h => by simp only [Conc] at *; exact h
 | .pi sz es i off, v, h => by
   simp only [Conc] at *;obtain ⟨b, o, arr, h1, h2, h3⟩ := h;exact ⟨b, o, arr, h1, hV _ _ h2, fun c hc => ⟨(h3 c hc).1, (h3 c hc).2.mono hV⟩⟩
 | .os n, v, h => by simp only [Conc] at *; exact h
 | .nt n i_, v, h => by simp only [Conc] at *; exact h
 | .np n i_ k_, v, h => by simp only [Conc] at *; exact h
 | .ov n sz lo hi, v, h => by simp only [Conc] at *; exact h
 | .fn f cap, v, h => by simp only [Conc] at *; obtain ⟨vs, a, b⟩ := h; exact ⟨vs, a, ConcL.mono hV b⟩
 | .dead, v, h => by simp only [Conc]
theorem ConcL.mono {V V' : View} (hV : V.le V') {ρ} : ∀ {l vs}, ConcL V ρ l vs → ConcL V' ρ l vs
 | [], vs, h => by simp only [ConcL] at *; exact h
 | x :: l, vs, h => by simp only [ConcL] at *; obtain ⟨u, us, a, b, c⟩ := h; exact ⟨u, us, a, Conc.mono hV b, ConcL.mono hV c⟩
theorem Cells.mono {V V' : View} (hV : V.le V') {ρ} : ∀ {l vs}, Cells V ρ l vs → Cells V' ρ l vs
 | [], vs, h => by simp only [Cells] at *; exact h
 | x :: l, vs, h => by simp only [Cells] at *; obtain ⟨u, us, a, b, c, d, e⟩ := h; exact ⟨u, us, a, Conc.mono hV b, c, d, Cells.mono hV e⟩
end
def upd (ρ : Nat → Value) (n : Nat) (p : Value) : Nat → Value := fun m => if m = n then p else ρ m
theorem Ao {ρ : Nat → Value} {n m p} (h : m ≠ n) : upd ρ n p m = ρ m := by simp [upd, h]
theorem Ai {ρ : Nat → Value} {n p} : upd ρ n p n = p := by simp [upd]
mutual
theorem D3 (n : Nat) : ∀ x : SV, (x.kill n).width = x.width
 | .pv x => by simp only [SV.kill]
 | .vec m cs => by simp only [SV.kill]
 | .agg l => by simp only [SV.kill, SV.width]; exact Jw n l
 | .tup l => by simp only [SV.kill, SV.width]
 | .p m off => by simp only [SV.kill]; split <;> simp only [SV.width]
 | .ps m off => by simp only [SV.kill]; split <;> simp only [SV.width]
 | .pr m sz i off => by simp only [SV.kill]; split <;> simp only [SV.width]
 | .pi sz es i off => by simp only [SV.kill]
 | .os m => by simp only [SV.kill]; split <;> simp only [SV.width]
 | .nt m i_ => by simp only [SV.kill]; split <;> simp only [SV.width]
 | .np m i_ k_ => by simp only [SV.kill]; split <;> simp only [SV.width]
 | .ov m z a b => by simp only [SV.kill]; split <;> simp only [SV.width]
 | .fn f cap => by simp only [SV.kill, SV.width]
 | .dead => by simp only [SV.kill]
theorem Jw (n : Nat) : ∀ l : List SV, SV.widthL (SV.killL n l) = SV.widthL l
 | [] => by simp only [SV.killL]
 | x :: l => by simp only [SV.killL, SV.widthL, D3 n x, Jw n l]
end
mutual
theorem Conc.kill {V V' : View} (hV : V.le V') {ρ : Nat → Value} {n : Nat} {p : Value} : ∀ {x : SV} {v}, Conc V ρ x v → Conc V' (upd ρ n p) (x.kill n) v
 | .pv x, v, h => by simp only [SV.kill, Conc] at *; exact h.mono hV
 | .vec n cs, v, h => by simp only [SV.kill, Conc] at *; obtain ⟨vs, a, b, c⟩ := h; exact ⟨vs, a, b, c.mono hV⟩
 | .agg l, v, h => by simp only [SV.kill, Conc] at *; obtain ⟨vs, a, b⟩ := h; exact ⟨vs, a, Cells.kill hV b⟩
 | .tup l, v, h => by simp only [SV.kill, Conc] at *; obtain ⟨vs, a, b⟩ := h; exact ⟨vs, a, ConcL.kill hV b⟩
 | .p m off, v, h => by
   simp only [SV.kill]; split
   · simp only [Conc]
   · rename_i hn; simp only [Conc] at *; rw [Ao (Ne.symm hn)]; exact h
 | .ps m off, v, h => by
   simp only [SV.kill]; split
   · simp only [Conc]
   · rename_i hn; simp only [Conc] at *; rw [Ao (Ne.symm hn)]; exact h
 | .pr m sz i off, v, h => by
   simp only [SV.kill]; split
   · simp only [Conc]
   · rename_i hn; simp only [Conc] at *; rw [Ao (Ne.symm hn)]; exact h
 | .pi sz es i off, v, h => by
   simp only [SV.kill, Conc] at *;obtain ⟨b, o, arr, h1, h2, h3⟩ := h;exact ⟨b, o, arr, h1, hV _ _ h2, fun c hc => ⟨(h3 c hc).1, (h3 c hc).2.mono hV⟩⟩
 | .os m, v, h => by
   simp only [SV.kill]; split
   · simp only [Conc]
   · rename_i hn; simp only [Conc] at *; rw [Ao (Ne.symm hn)]; exact h
 | .nt m i_, v, h => by
   simp only [SV.kill]; split
   · simp only [Conc]
   · rename_i hn; simp only [Conc] at *; rw [Ao (Ne.symm hn)]; exact h
 | .np m i_ k_, v, h => by
   simp only [SV.kill]; split
   · simp only [Conc]
   · rename_i hn; simp only [Conc] at *; rw [Ao (Ne.symm hn)]; exact h
 | .ov m z a b, v, h => by
   simp only [SV.kill]; split
   · simp only [Conc]
   · rename_i hn; simp only [Conc] at *; rw [Ao (Ne.symm hn)]; exact h
 | .fn f cap, v, h => by simp only [SV.kill, Conc] at *; obtain ⟨vs, a, b⟩ := h; exact ⟨vs, a, ConcL.kill hV b⟩
 | .dead, v, h => by simp only [SV.kill, Conc]
theorem ConcL.kill {V V' : View} (hV : V.le V') {ρ : Nat → Value} {n : Nat} {p : Value} : ∀ {l : List SV} {vs}, ConcL V ρ l vs → ConcL V' (upd ρ n p) (SV.killL n l) vs
 | [], vs, h => by simp only [SV.killL, ConcL] at *; exact h
 | x :: l, vs, h => by simp only [SV.killL, ConcL] at *; obtain ⟨u, us, a, b, c⟩ := h; exact ⟨u, us, a, Conc.kill hV b, ConcL.kill hV c⟩
theorem Cells.kill {V V' : View} (hV : V.le V') {ρ : Nat → Value} {n : Nat} {p : Value} : ∀ {l : List SV} {vs}, Cells V ρ l vs → Cells V' (upd ρ n p) (SV.killL n l) vs
 | [], vs, h => by simp only [SV.killL, Cells] at *; exact h
 | x :: l, vs, h => by
   simp only [SV.killL, Cells] at *;obtain ⟨u, us, a, b, c, d, e⟩ := h;exact ⟨u, us, a, Conc.kill hV b, by rw [D3]; exact c, d, Cells.kill hV e⟩
end
def noFroz (fr : Nat × Nat) (n : Nat) : Prop := fr.1 = fr.2 ∨ n ≤ fr.1
theorem noFroz.at {fr : Nat × Nat} {n : Nat} (h : noFroz fr n) (i : Nat) (hi : i < n) : ¬ (fr.1 ≤ i ∧ i < fr.2) := by unfold noFroz at h; omega
def rowFroz (sz : Nat) (fr : Nat × Nat) (n : Nat) : Prop := fr.1 = fr.2 ∨ (sz = 1 ∧ n ≤ fr.1)
theorem rowFroz.no {sz : Nat} {fr : Nat × Nat} {n : Nat} (h : rowFroz sz fr n) : noFroz fr n := h.imp_right (·.2)
def D9 : Value → Nat → Prop
 | .pointer (some a), b => a.block = b
 | .slice (some a) _ cap, b => cap ≠ 0 ∧ a.block = b
 | _, _ => False
def A1 : Value → Nat → Prop
 | .pointer (some a), b => a.block = b
 | .slice (some a) _ cap, b => cap ≠ 0 ∧ a.block = b
 | .tuple l, b => ∃ x ∈ l.toList, D9 x b
 | _, _ => False
def SlV (w : World) (V : View) (v : Value) (sz : Nat) (es : List (List PV)) : Prop := ∃ base cap, v = .slice base es.length cap ∧ es.length ≤ cap ∧ 0 < sz ∧ (∀ c ∈ es, c.length = sz) ∧
 (cap ≠ 0 → ∃ b vs ty fr, base = some ⟨b, 0, none⟩ ∧ w.heap[b]? = some (.cells ⟨vs⟩ ty fr) ∧ vs.length = cap * sz ∧ rowFroz sz fr vs.length ∧ (∀ c ∈ vs, Al c) ∧
   ∀ i c, es[i]? = some c → PCells V c ((vs.drop (i * sz)).take sz))
def Own (w : World) (V : View) (ρ : Nat → Value) (n : Nat) : Blk → Prop
 | .var x => ∃ b vs ty fr u, ρ n = .pointer (some ⟨b, 0, none⟩) ∧ w.heap[b]? = some (.cells ⟨vs⟩ ty fr) ∧ noFroz fr vs.length ∧ Conc V ρ x u ∧ vs = Ag u ∧ vs.length = x.width ∧ ∀ c ∈ vs, Al c
 | .row sz es => ∃ base cap, ρ n = .slice base es.length cap ∧ es.length ≤ cap ∧ 0 < sz ∧ (∀ c ∈ es, c.length = sz) ∧
    (cap ≠ 0 → ∃ b vs ty fr, base = some ⟨b, 0, none⟩ ∧ w.heap[b]? = some (.cells ⟨vs⟩ ty fr) ∧ vs.length = cap * sz ∧ rowFroz sz fr vs.length ∧ (∀ c ∈ vs, Al c) ∧
      ∀ i c, es[i]? = some c → PCells V c ((vs.drop (i * sz)).take sz))
 | .rowc sz es cap => ∃ base, ρ n = .slice base es.length cap ∧ es.length ≤ cap ∧ 0 < sz ∧ (∀ c ∈ es, c.length = sz) ∧
    (cap ≠ 0 → ∃ b vs ty fr, base = some ⟨b, 0, none⟩ ∧ w.heap[b]? = some (.cells ⟨vs⟩ ty fr) ∧ vs.length = cap * sz ∧ rowFroz sz fr vs.length ∧ (∀ c ∈ vs, Al c) ∧
      ∀ i c, es[i]? = some c → PCells V c ((vs.drop (i * sz)).take sz))
 | .it l pos => ∃ b, ρ n = .pointer (some ⟨b, 0, none⟩) ∧ w.heap[b]? = some (.stringIter ⟨l.toArray⟩ pos)
 | .nest es => ∃ o cs, ρ n = .tuple ⟨o :: cs⟩ ∧ cs.length = es.length ∧ SlV w V o 1 (cs.map fun c => [.v c]) ∧ (∀ (i : Nat) (c : Value) (l : List UInt8), cs[i]? = some c → es[i]? = some l → SlV w V c 1 (Ad l)) ∧ (o :: cs).Pairwise fun x y => ∀ b, D9 x b → ¬ D9 y b
def Ar (ρ : Nat → Value) (h : Nat → Option Blk) (b : Nat) : Prop := ∃ n blk, h n = some blk ∧ A1 (ρ n) b
def A3 (w : World) (b : Nat) : Option (Array Value) := match w.heap[b]? with
 | some (.cells c _ _) => some c
 | _ => none
open Classical in
noncomputable def Ak (w : World) (O : Nat → Prop) : View := fun b => if O b then none else A3 w b
theorem A6 {w w' : World} {O O' : Nat → Prop} (h : ∀ b c, ¬ O b → A3 w b = some c → ¬ O' b ∧ A3 w' b = some c) : (Ak w O).le (Ak w' O') := by
 intro b c hb;unfold Ak at *;by_cases ho : O b
 · simp [ho] at hb
 · simp only [ho, if_false] at hb;obtain ⟨h1, h2⟩ := h b c ho hb;simp only [h1, if_false]; exact h2
def Ac5 : List (Nat × Array Value) := []
def Zd (w : World) : Prop := ∀ p ∈ Ac5, A3 w p.1 = some p.2
structure Fr where
 w0 : World
 M0 : Nat → Prop
 hid : Nat → Prop
 x : Nat → Value := fun _ => undef
 defs : List Deferred := []
def Fr.val (F : Fr) (a : Act) (n : Nat) : Value := if n < D2 then a.tmps.getD n undef else F.x n
theorem Fr.val_lt {F : Fr} {a : Act} {n : Nat} (h : n < D2) : F.val a n = a.tmps.getD n undef := by unfold Fr.val; rw [if_pos h]
def Fr.out (F : Fr) (ρ : Nat → Value) (h : Nat → Option Blk) (b : Nat) : Prop := Ar ρ h b ∨ F.hid b
structure Fr.ok (F : Fr) (w : World) : Prop where
 os : w.os = F.w0.os
 tape : w.tape = F.w0.tape
 output : w.output = F.w0.output
 size : F.w0.heap.size ≤ w.heap.size
 block : ∀ b, b < F.w0.heap.size → ¬ F.M0 b → w.heap[b]? = F.w0.heap[b]?
 hid : ∀ b, F.hid b → b < F.w0.heap.size ∧ ¬ F.M0 b
 tab : Zd F.w0 ∧ ∀ p ∈ Ac5, ¬ F.M0 p.1
structure RelR (F : Fr) (N : Nat) (ρ : Nat → Value) (s : FS) (a : Act) (w : World) : Prop where
 fr : F.ok w
 may : ∀ b, Ar ρ s.h b → F.w0.heap.size ≤ b ∨ F.M0 b
 own : ∀ n blk, s.h n = some blk → Own w (Ak w (F.out ρ s.h)) ρ n blk
 inj : ∀ n m x y b, s.h n = some x → s.h m = some y → A1 (ρ n) b → A1 (ρ m) b → n = m
 tmps : ∀ n, Conc (Ak w (F.out ρ s.h)) ρ (s.t n) (F.val a n)
 size : a.tmps.size = N
 defers : a.defers = F.defs
theorem RelR.tm {F : Fr} {N : Nat} {ρ s a w} (h : RelR F N ρ s a w) (n : Nat) (hn : n < D2) : Conc (Ak w (F.out ρ s.h)) ρ (s.t n) (a.tmps.getD n undef) := by
 have := h.tmps n
 rwa [Fr.val_lt hn] at this
def Rel (F : Fr) (N : Nat) (s : FS) (a : Act) (w : World) : Prop := ∃ ρ, RelR F N ρ s a w
theorem RelR.shown {F : Fr} {N : Nat} {ρ s a w b} (h : RelR F N ρ s a w) (hb : Ar ρ s.h b) : ¬ F.hid b := fun hh => by
 have h1 := h.fr.hid b hh;rcases h.may b hb with h2 | h2
 · omega
 · exact h1.2 h2
theorem SlV.lt {w V v sz es b} (h : SlV w V v sz es) (hb : D9 v b) : b < w.heap.size := by
 obtain ⟨base, cap, rfl, _, _, _, h2⟩ := h;cases base with
 | none => exact hb.elim
 | some a =>
   obtain ⟨hc, rfl⟩ := hb;obtain ⟨b', vs, ty, fr, e1, e2, _⟩ := h2 hc;cases e1;exact (Array.getElem?_eq_some_iff.1 e2).1
theorem SlV.mono {w w' V V' v sz es} (hV : View.le V V') (hw : ∀ b, D9 v b → w'.heap[b]? = w.heap[b]?) (h : SlV w V v sz es) : SlV w' V' v sz es := by
 obtain ⟨base, cap, rfl, h2, h3, h4, h5⟩ := h;refine ⟨base, cap, rfl, h2, h3, h4, fun hc => ?_⟩;obtain ⟨b, vs, ty, fr, rfl, e2, e3, e4, e5, e6⟩ := h5 hc;exact ⟨b, vs, ty, fr, rfl, by rw [hw b ⟨hc, rfl⟩]; exact e2, e3, e4, e5, fun i c hi => (e6 i c hi).mono hV⟩
theorem Own.lt {w V ρ n blk b} (h : Own w V ρ n blk) (hb : A1 (ρ n) b) : b < w.heap.size := by
 cases blk with
 | var x =>
   obtain ⟨b', vs, ty, fr, u, h1, h2, _⟩ := h;rw [h1] at hb; simp [A1] at hb; subst hb;exact (Array.getElem?_eq_some_iff.1 h2).1
 | row sz es =>
   obtain ⟨base, cap, h1, _, _, _, h2⟩ := h;rw [h1] at hb;cases base with
   | none => simp [A1] at hb
   | some a =>
     obtain ⟨hc, rfl⟩ := hb;obtain ⟨b', vs, ty, fr, e1, e2, _⟩ := h2 hc;cases e1;exact (Array.getElem?_eq_some_iff.1 e2).1
 | rowc sz es cap =>
   obtain ⟨base, h1, _, _, _, h2⟩ := h;rw [h1] at hb;cases base with
   | none => simp [A1] at hb
   | some a =>
     obtain ⟨hc, rfl⟩ := hb;obtain ⟨b', vs, ty, fr, e1, e2, _⟩ := h2 hc;cases e1;exact (Array.getElem?_eq_some_iff.1 e2).1
 | it l pos =>
   obtain ⟨b', h1, h2⟩ := h;rw [h1] at hb;simp [A1] at hb; subst hb;exact (Array.getElem?_eq_some_iff.1 h2).1
 | nest es =>
   obtain ⟨o, cs, h1, h2, h3, h4, _⟩ := h;rw [h1] at hb;obtain ⟨x, hx, hb⟩ := hb;rcases List.mem_cons.1 hx with rfl | hx
   · exact h3.lt hb
   · obtain ⟨i, hi⟩ := List.mem_iff_getElem?.1 hx;have hlt : i < es.length := by have := (List.getElem?_eq_some_iff.1 hi).1; omega
     exact (h4 i x _ hi (List.getElem?_eq_getElem hlt)).lt hb
end Go.Proofs.Ytdikcfjpcgapaaa.Fw
namespace Go.Proofs.Ytdikcfjpcgapaaa.Fw
open Go.RowKit
theorem C8 {w : World} {b c} (h : A3 w b = some c) : b < w.heap.size := by
 unfold A3 at h;split at h
 · rename_i h1; exact (Array.getElem?_eq_some_iff.1 h1).1
 · cases h
theorem Be {w w' : World} {b} (h : w'.heap[b]? = w.heap[b]?) : A3 w' b = A3 w b := by
 unfold A3; rw [h]
theorem Own.congr {w w' : World} {V V' : View} {ρ n blk} (hV : V.le V') (hw : ∀ b, A1 (ρ n) b → w'.heap[b]? = w.heap[b]?) (h : Own w V ρ n blk) : Own w' V' ρ n blk := by
 cases blk with
 | var x =>
   obtain ⟨b, vs, ty, fr, u, h1, h2, h3, h4, h5⟩ := h;exact ⟨b, vs, ty, fr, u, h1, by rw [hw b (by rw [h1]; rfl)]; exact h2, h3, h4.mono hV, h5⟩
 | row sz es =>
   obtain ⟨base, cap, h1, h2, h3, h4, h5⟩ := h;refine ⟨base, cap, h1, h2, h3, h4, fun hc => ?_⟩;obtain ⟨b, vs, ty, fr, e1, e2, e3, e4, e5, e6⟩ := h5 hc;exact ⟨b, vs, ty, fr, e1, by rw [hw b (by rw [h1, e1]; simp [A1, hc])]; exact e2, e3, e4, e5, fun i c hi => (e6 i c hi).mono hV⟩
 | rowc sz es cap =>
   obtain ⟨base, h1, h2, h3, h4, h5⟩ := h;refine ⟨base, h1, h2, h3, h4, fun hc => ?_⟩;obtain ⟨b, vs, ty, fr, e1, e2, e3, e4, e5, e6⟩ := h5 hc;exact ⟨b, vs, ty, fr, e1, by rw [hw b (by rw [h1, e1]; simp [A1, hc])]; exact e2, e3, e4, e5, fun i c hi => (e6 i c hi).mono hV⟩
 | it l pos =>
   obtain ⟨b, h1, h2⟩ := h;exact ⟨b, h1, by rw [hw b (by rw [h1]; rfl)]; exact h2⟩
 | nest es =>
   obtain ⟨o, cs, h1, h2, h3, h4, h5⟩ := h;rw [h1] at hw;exact ⟨o, cs, h1, h2, h3.mono hV fun b hb => hw b ⟨o, List.mem_cons_self, hb⟩, fun i c l hi hl => (h4 i c l hi hl).mono hV fun b hb => hw b ⟨c, List.mem_cons_of_mem _ (List.mem_of_getElem? hi), hb⟩, h5⟩
theorem Own.kill {w : World} {V V' : View} {ρ n m p blk} (hV : V.le V') (hne : m ≠ n) (h : Own w V ρ m blk) : Own w V' (upd ρ n p) m (blk.kill n) := by
 cases blk with
 | var x =>
   obtain ⟨b, vs, ty, fr, u, h1, h2, h3, h4, h5, h6, h7⟩ := h;exact ⟨b, vs, ty, fr, u, by rw [Ao hne]; exact h1, h2, h3, h4.kill hV, h5, by rw [D3]; exact h6, h7⟩
 | row sz es =>
   obtain ⟨base, cap, h1, h2, h3, h4, h5⟩ := h;refine ⟨base, cap, by rw [Ao hne]; exact h1, h2, h3, h4, fun hc => ?_⟩;obtain ⟨b, vs, ty, fr, e1, e2, e3, e4, e5, e6⟩ := h5 hc;exact ⟨b, vs, ty, fr, e1, e2, e3, e4, e5, fun i c hi => (e6 i c hi).mono hV⟩
 | rowc sz es cap =>
   obtain ⟨base, h1, h2, h3, h4, h5⟩ := h;refine ⟨base, by rw [Ao hne]; exact h1, h2, h3, h4, fun hc => ?_⟩;obtain ⟨b, vs, ty, fr, e1, e2, e3, e4, e5, e6⟩ := h5 hc;exact ⟨b, vs, ty, fr, e1, e2, e3, e4, e5, fun i c hi => (e6 i c hi).mono hV⟩
 | it l pos =>
   obtain ⟨b, h1, h2⟩ := h;exact ⟨b, by rw [Ao hne]; exact h1, h2⟩
 | nest es =>
   obtain ⟨o, cs, h1, h2, h3, h4, h5⟩ := h;exact ⟨o, cs, by rw [Ao hne]; exact h1, h2, h3.mono hV fun _ _ => rfl, fun i c l hi hl => (h4 i c l hi hl).mono hV fun _ _ => rfl, h5⟩
variable {F : Fr} {N : Nat} {ρ : Nat → Value} {s : FS} {a : Act} {w w' : World}
theorem RelR.put (h : RelR F N ρ s a w) {dst : Option Nat} {x : SV} {v : Value} (hd : ∀ d, dst = some d → d < N ∧ d < D2)
 (hc : Conc (Ak w (F.out ρ s.h)) ρ x v) : RelR F N ρ (s.apply dst x []) (a.put dst v) w := by
 cases dst with
 | none => simpa [FS.apply, FS.hup, Act.put] using h
 | some d =>
   obtain ⟨hdN, hdb⟩ := hd d rfl;refine ⟨h.fr, h.may, h.own, h.inj, fun n => ?_, by simp [Act.put, h.size], h.defers⟩;simp only [FS.apply, FS.hup, FS.set, Act.put];by_cases hn : n = d
   · subst hn;rw [Fr.val_lt hdb];simp [Array.getD_eq_getD_getElem?, Array.getElem?_setIfInBounds, h.size, hdN, hc]
   · simp only [hn, if_false];have := h.tmps n;unfold Fr.val at this ⊢;rw [Array.getD_eq_getD_getElem?] at this ⊢;rw [Array.getElem?_setIfInBounds_ne (Ne.symm hn)]; exact this
structure Grew (w w' : World) : Prop where
 os : w'.os = w.os
 tape : w'.tape = w.tape
 output : w'.output = w.output
 size : w.heap.size ≤ w'.heap.size
 block : ∀ b, b < w.heap.size → w'.heap[b]? = w.heap[b]?
theorem Grew.refl (w : World) : Grew w w := ⟨rfl, rfl, rfl, Nat.le_refl _, fun _ _ => rfl⟩
theorem Grew.push (w : World) (o : Obj) : Grew w { w with heap := w.heap.push o } :=
 ⟨rfl, rfl, rfl, by simp, fun b hb => by simp [Array.getElem?_push, Nat.ne_of_lt hb]⟩
theorem Grew.drawn (w : World) (n : Nat) : Grew w { w with drawn := n } := ⟨rfl, rfl, rfl, Nat.le_refl _, fun _ _ => rfl⟩
theorem Grew.trans {a b c : World} (h : Grew a b) (k : Grew b c) : Grew a c :=
 ⟨k.os.trans h.os, k.tape.trans h.tape, k.output.trans h.output, Nat.le_trans h.size k.size, fun i hi => (k.block i (Nat.lt_of_lt_of_le hi h.size)).trans (h.block i hi)⟩
theorem Grew.of_below (h : Below w.heap.size w w') : Grew w w' := ⟨h.os, h.tape, h.output, h.size, h.block⟩
theorem Fr.ok.grew (h : F.ok w) (g : Grew w w') : F.ok w' :=
 ⟨g.os.trans h.os, g.tape.trans h.tape, g.output.trans h.output, Nat.le_trans h.size g.size, fun b hb hm => (g.block b (Nat.lt_of_lt_of_le hb h.size)).trans (h.block b hb hm), h.hid, h.tab⟩
theorem RelR.tabW (h : RelR F N ρ s a w) : Zd w := fun p hp => by
 have h1 := h.fr.tab.1 p hp;rw [Be (h.fr.block p.1 (C8 h1) (h.fr.tab.2 p hp))]; exact h1
theorem RelR.tabN (h : RelR F N ρ s a w) {p : Nat × Array Value} (hp : p ∈ Ac5) : ¬ Ar ρ s.h p.1 := fun ho => by
 have h1 := C8 (h.fr.tab.1 p hp);rcases h.may _ ho with h2 | h2
 · omega
 · exact h.fr.tab.2 p hp h2
theorem RelR.lt (h : RelR F N ρ s a w) {b} (hb : Ar ρ s.h b) : b < w.heap.size := by
 obtain ⟨n, blk, h1, h2⟩ := hb; exact (h.own n blk h1).lt h2
theorem RelR.le_of_grew (h : RelR F N ρ s a w) (g : Grew w w') : (Ak w (F.out ρ s.h)).le (Ak w' (F.out ρ s.h)) :=
 A6 fun b c ho hc => ⟨ho, by rw [Be (g.block b (C8 hc))]; exact hc⟩
theorem RelR.grew (h : RelR F N ρ s a w) (g : Grew w w') : RelR F N ρ s a w' := by
 have hV := h.le_of_grew g;exact ⟨h.fr.grew g, h.may, fun n blk hn => (h.own n blk hn).congr hV (fun b hb => g.block b ((h.own n blk hn).lt hb)), h.inj,
  fun n => (h.tmps n).mono hV, h.size, h.defers⟩
theorem RelR.adopt (h : RelR F N ρ s a w) (g : Grew w w') (n : Nat) (blk : Blk) (p : Value)
 (hid : ∀ b, A1 p b → w.heap.size ≤ b ∧ b < w'.heap.size)
 (hown : (Ak w (F.out ρ s.h)).le (Ak w' (F.out (upd ρ n p) ((s.kill n).seth n (some blk)).h)) → Own w' (Ak w' (F.out (upd ρ n p) ((s.kill n).seth n (some blk)).h)) (upd ρ n p) n blk) :
 RelR F N (upd ρ n p) ((s.kill n).seth n (some blk)) a w' ∧ (Ak w (F.out ρ s.h)).le (Ak w' (F.out (upd ρ n p) ((s.kill n).seth n (some blk)).h)) := by
 have hh : ∀ m, m ≠ n → ((s.kill n).seth n (some blk)).h m = (s.h m).map (Blk.kill n) := fun m hm => by simp [FS.seth, FS.kill, hm]
 have hn : ((s.kill n).seth n (some blk)).h n = some blk := by simp [FS.seth]
 have key : ∀ b, Ar (upd ρ n p) ((s.kill n).seth n (some blk)).h b → (Ar ρ s.h b) ∨ A1 p b := by
  rintro b ⟨m, y, hm, hb⟩;by_cases e : m = n
  · subst e; rw [Ai] at hb; exact .inr hb
  · rw [hh m e] at hm; rw [Ao e] at hb;cases hs : s.h m with
    | none => rw [hs] at hm; cases hm
    | some z => exact .inl ⟨m, z, hs, hb⟩
 have hV : (Ak w (F.out ρ s.h)).le (Ak w' (F.out (upd ρ n p) ((s.kill n).seth n (some blk)).h)) :=
  A6 fun b c ho hc => by
   have hlt := C8 hc;refine ⟨fun hb => ?_, by rw [Be (g.block b hlt)]; exact hc⟩;rcases hb with hb | hb
   rotate_left
   · exact ho (.inr hb)
   rcases key b hb with h1 | h1
   · exact ho (.inl h1)
   · have := hid b h1; omega
 refine ⟨⟨h.fr.grew g, fun b hb => ?_, fun m y hm => ?_, fun m k x y b hm hk hbm hbk => ?_, fun m => ?_, h.size, h.defers⟩, hV⟩
 · rcases key b hb with h1 | h1
   · exact h.may b h1
   · exact .inl (Nat.le_trans h.fr.size (hid b h1).1)
 · by_cases e : m = n
   · subst e; rw [hn] at hm; cases hm; exact hown hV
   · rw [hh m e] at hm;cases hs : s.h m with
     | none => rw [hs] at hm; cases hm
     | some z =>
       rw [hs] at hm; cases hm;have ho := h.own m z hs;have hlt : ∀ b, A1 (ρ m) b → b < w.heap.size := fun b hb => ho.lt hb;exact (ho.congr (V' := Ak w (F.out ρ s.h)) (w' := w') (fun _ _ x => x) (fun b hb => g.block b (hlt b hb))).kill hV e
 · by_cases e1 : m = n
   · by_cases e2 : k = n
     · rw [e1, e2]
     · exfalso;subst e1; rw [Ai] at hbm; rw [Ao e2] at hbk; rw [hh k e2] at hk;cases hs : s.h k with
       | none => rw [hs] at hk; cases hk
       | some z => have := (h.own k z hs).lt hbk; have := hid b hbm; omega
   · by_cases e2 : k = n
     · exfalso;subst e2; rw [Ai] at hbk; rw [Ao e1] at hbm; rw [hh m e1] at hm;cases hs : s.h m with
       | none => rw [hs] at hm; cases hm
       | some z => have := (h.own m z hs).lt hbm; have := hid b hbk; omega
     · rw [hh m e1] at hm; rw [hh k e2] at hk; rw [Ao e1] at hbm; rw [Ao e2] at hbk;cases hs : s.h m with
       | none => rw [hs] at hm; cases hm
       | some z => cases ht : s.h k with
         | none => rw [ht] at hk; cases hk
         | some z' => exact h.inj m k z z' b hs ht hbm hbk
 · show Conc _ _ ((s.t m).kill n) _;exact (h.tmps m).kill hV
theorem RelR.new (h : RelR F N ρ s a w) (g : Grew w w') (n : Nat) (blk : Blk) (p : Value)
 (hid : ∀ b, A1 p b → w.heap.size ≤ b ∧ b < w'.heap.size)
 (hown : ∀ V', (Ak w (F.out ρ s.h)).le V' → Own w' V' (upd ρ n p) n blk) :
 RelR F N (upd ρ n p) ((s.kill n).seth n (some blk)) a w' ∧ (Ak w (F.out ρ s.h)).le (Ak w' (F.out (upd ρ n p) ((s.kill n).seth n (some blk)).h)) :=
 h.adopt g n blk p hid fun hV => hown _ hV
theorem RelR.upd (h : RelR F N ρ s a w) (n : Nat) (old blk : Blk) (hn : s.h n = some old) (b0 : Nat) (hb0 : A1 (ρ n) b0)
 (hos : w'.os = w.os) (htape : w'.tape = w.tape) (hout : w'.output = w.output) (hsize : w'.heap.size = w.heap.size)
 (hblock : ∀ b, b ≠ b0 → w'.heap[b]? = w.heap[b]?) (hown : Own w' (Ak w (F.out ρ s.h)) ρ n blk) :
 RelR F N ρ (s.seth n (some blk)) a w' ∧ (Ak w (F.out ρ s.h)).le (Ak w' (F.out ρ (s.seth n (some blk)).h)) := by
 have hh : ∀ m, m ≠ n → (s.seth n (some blk)).h m = s.h m := fun m hm => by simp [FS.seth, hm]
 have hn' : (s.seth n (some blk)).h n = some blk := by simp [FS.seth]
 have how : ∀ b, Ar ρ (s.seth n (some blk)).h b ↔ Ar ρ s.h b := by
  intro b; constructor
  · rintro ⟨m, y, hm, hb⟩;by_cases e : m = n
    · subst e; exact ⟨m, old, hn, hb⟩
    · rw [hh m e] at hm; exact ⟨m, y, hm, hb⟩
  · rintro ⟨m, y, hm, hb⟩;by_cases e : m = n
    · subst e; exact ⟨m, blk, hn', hb⟩
    · exact ⟨m, y, by rw [hh m e]; exact hm, hb⟩
 have hV : (Ak w (F.out ρ s.h)).le (Ak w' (F.out ρ (s.seth n (some blk)).h)) :=
  A6 fun b c ho hc => by
   refine ⟨fun hb => ho (hb.imp_left (how b).1), ?_⟩;have : b ≠ b0 := fun e => ho (.inl (e ▸ ⟨n, old, hn, hb0⟩));rw [Be (hblock b this)]; exact hc
 have hmay := h.may b0 ⟨n, old, hn, hb0⟩;refine ⟨⟨⟨hos.trans h.fr.os, htape.trans h.fr.tape, hout.trans h.fr.output, by rw [hsize]; exact h.fr.size, fun b hb hm => ?_, h.fr.hid, h.fr.tab⟩, fun b hb => h.may b ((how b).1 hb), fun m y hm => ?_, fun m k x y b hm hk hbm hbk => ?_, fun m => ?_, h.size, h.defers⟩, hV⟩
 · have : b ≠ b0 := fun e => by subst e; rcases hmay with h1 | h1; omega; exact hm h1
   rw [hblock b this]; exact h.fr.block b hb hm
 · by_cases e : m = n
   · subst e; rw [hn'] at hm; cases hm; exact hown.congr hV (fun _ _ => rfl)
   · rw [hh m e] at hm;exact (h.own m y hm).congr hV (fun b hb => hblock b (fun e2 => e (h.inj m n y old b hm hn hb (e2 ▸ hb0))))
 · have : ∀ m x, (s.seth n (some blk)).h m = some x → ∃ z, s.h m = some z := fun m x hx => by
    by_cases e : m = n
    · subst e; exact ⟨old, hn⟩
    · exact ⟨x, by rw [hh m e] at hx; exact hx⟩
   obtain ⟨z1, h1⟩ := this m x hm; obtain ⟨z2, h2⟩ := this k y hk;exact h.inj m k z1 z2 b h1 h2 hbm hbk
 · exact (h.tmps m).mono hV
theorem RelR.del (h : RelR F N ρ s a w) (n : Nat) : RelR F N ρ (s.seth n none) a w ∧ (Ak w (F.out ρ s.h)).le (Ak w (F.out ρ (s.seth n none).h)) := by
 have hh : ∀ m x, (s.seth n none).h m = some x → s.h m = some x ∧ m ≠ n := fun m x hm => by
  simp only [FS.seth] at hm; split at hm
  · cases hm
  · rename_i e; exact ⟨hm, e⟩
 have how : ∀ b, Ar ρ (s.seth n none).h b → Ar ρ s.h b := by
  rintro b ⟨m, y, hm, hb⟩; exact ⟨m, y, (hh m y hm).1, hb⟩
 have hV : (Ak w (F.out ρ s.h)).le (Ak w (F.out ρ (s.seth n none).h)) := A6 fun b c ho hc => ⟨fun hb => ho (hb.imp_left (how b)), hc⟩
 exact ⟨⟨h.fr, fun b hb => h.may b (how b hb), fun m y hm => (h.own m y (hh m y hm).1).congr hV (fun _ _ => rfl),
  fun m k x y b hm hk => h.inj m k x y b (hh m x hm).1 (hh k y hk).1, fun m => (h.tmps m).mono hV, h.size, h.defers⟩, hV⟩
end Go.Proofs.Ytdikcfjpcgapaaa.Fw
namespace Go.Proofs.Ytdikcfjpcgapaaa.Fw
open Go.RowKit
variable {P : Program}
theorem Aa {α β : Type} {m : Sem α} {f : α → Sem β} {w w' : World} {x : α} (h : m.run P w = .ok x w') : (m >>= f).run P w = (f x).run P w' := by
 rw [Sem.run_bind, h]; rfl
theorem H9 {t : TypeId} {i : TypeInfo} (h : P.info? t = some i) (w : World) : (typeInfo t).run P w = .ok i w := by
 show ((program >>= fun p => _)).run P w = _;rw [Aa (x := P) (w' := w) rfl];simp only [h]; rfl
theorem Ay {t : TypeId} {n : Nat} (h : Ac P t = some n) (w : World) : (sizeOf t).run P w = .ok n w := by
 unfold Ac at h;cases hi : P.info? t with
 | none => rw [hi] at h; cases h
 | some i =>
   rw [hi] at h; cases h;unfold sizeOf;rw [Aa (H9 hi w)]; rfl
theorem run_underlying {t : TypeId} {d : TypeDesc} (h : P.underlying t = some d) (w : World) : (underlying t).run P w = .ok d w := by
 unfold Go.underlying;rw [Aa (x := P) (w' := w) rfl];simp only [h]; rfl
theorem E0 {t : TypeId} {ag : Bool} (h : Cc P t = some ag) (w : World) : (isAgg t).run P w = .ok ag w := by
 unfold Cc at h;cases hd : P.underlying t with
 | none => rw [hd] at h; cases h
 | some d =>
   rw [hd] at h;unfold isAgg;rw [Aa (run_underlying hd w)];cases d <;> simp at h <;> subst h <;> rfl
theorem Bb (b off i : Nat) : (Addr.add ⟨b, off, none⟩ i) = ⟨b, off + i, none⟩ := by
 unfold Addr.add; split
 · rename_i h; subst h; rfl
 · rfl
theorem Kz {w : World} {b : Nat} {c : Array Value} {ty fr} (h : w.heap[b]? = some (.cells c ty fr)) (o : Nat) : w.cell? ⟨b, o, none⟩ = c[o]? := by
 unfold World.cell?; simp only [h]; rfl
theorem Ia {w : World} {b off : Nat} {c : Array Value} {ty fr} (h : w.heap[b]? = some (.cells c ty fr)) :
 ∀ (n i : Nat) (acc : Array Value), off + i + n ≤ c.size → (loadCellsFrom ⟨b, off, none⟩ i n acc).run P w = .ok (acc ++ (c.toList.drop (off + i)).take n) w := by
 intro n
 induction n with
 | zero => intro i acc _; simp [loadCellsFrom]
 | succ n ih =>
   intro i acc hn;have hlt : off + i < c.size := by omega
   have hl : (load (Addr.add ⟨b, off, none⟩ i)).run P w = .ok c[off + i] w := by
    unfold load;simp only [Sem.run, Bb, Kz h, Array.getElem?_eq_getElem hlt]
   unfold loadCellsFrom;rw [Aa hl, ih (i + 1) _ (by omega)];congr 1;have : (c.toList.drop (off + i)).take (n + 1) = c[off + i] :: (c.toList.drop (off + (i + 1))).take n := by
    rw [List.drop_eq_getElem_cons (by simpa using hlt)]; simp [Nat.add_assoc]
   rw [this];apply Array.ext';simp
theorem Dd {w : World} {b off n : Nat} {c : Array Value} {ty fr} (h : w.heap[b]? = some (.cells c ty fr)) (hn : off + n ≤ c.size) :
 (loadCells ⟨b, off, none⟩ n).run P w = .ok ⟨(c.toList.drop off).take n⟩ w := by
 unfold loadCells;rw [Ia h n 0 #[] (by omega)];simp
structure Wrote (w w' : World) (b : Nat) (vs : List Value) (ty : TypeId) (fr : Nat × Nat) : Prop where
 os : w'.os = w.os
 tape : w'.tape = w.tape
 output : w'.output = w.output
 size : w'.heap.size = w.heap.size
 block : ∀ i, i ≠ b → w'.heap[i]? = w.heap[i]?
 here : w'.heap[b]? = some (.cells ⟨vs⟩ ty fr)
theorem Bu : ∀ (us : List Value) (i : Nat) {w : World} {b off : Nat} {vs : List Value} {ty fr}, w.heap[b]? = some (.cells ⟨vs⟩ ty fr) → noFroz fr vs.length →
 (∀ u ∈ us, Al u) → off + i + us.length ≤ vs.length →
 ∃ w', (storeCells ⟨b, off, none⟩ us i).run P w = .ok () w' ∧ Wrote w w' b (vs.take (off + i) ++ us ++ vs.drop (off + i + us.length)) ty fr := by
 intro us
 induction us with
 | nil =>
   intro i w b off vs ty fr h hf ho hn;refine ⟨w, rfl, rfl, rfl, rfl, rfl, fun _ _ => rfl, ?_⟩;simp; exact h
 | cons u us ih =>
   intro i w b off vs ty fr h hf ho hn;have hlt : off + i < vs.length := by simp at hn; omega
   have hone := ho u (by simp);have hblt : b < w.heap.size := (Array.getElem?_eq_some_iff.1 h).1;have hset : (w.setCell ⟨b, off + i, none⟩ u).heap[b]? = some (.cells ⟨vs.set (off + i) u⟩ ty fr) := by
    unfold World.setCell;simp only;rw [Array.getElem?_modify, if_pos rfl, h];simp [List.setIfInBounds_toArray]
   have hstore : (store (Addr.add ⟨b, off, none⟩ i) u).run P w = .ok () (w.setCell ⟨b, off + i, none⟩ u) := by
    have hc : w.cell? ⟨b, off + i, none⟩ = some vs[off + i] := by rw [Kz h]; simp [hlt]
    have hz : w.frozen? ⟨b, off + i, none⟩ = false := by
     unfold World.frozen?; simp only [h];have := hf.at (off + i) hlt;simp only [Bool.and_eq_false_iff, decide_eq_false_iff_not];by_cases h1 : fr.1 ≤ off + i
     · exact .inr fun h2 => this ⟨h1, h2⟩
     · exact .inl h1
    rw [Bb, run_store P w _ u .plain (by cases u <;> simp_all [Al, Value.oneCell'])];simp only [hc, hz]; rfl
   obtain ⟨w', h1, h2⟩ := ih (i + 1) (off := off) hset (by simpa using hf) (fun x hx => ho x (by simp [hx])) (by simp at hn ⊢; omega);refine ⟨w', ?_, ?_⟩
   · unfold storeCells;rw [Aa hstore]; exact h1
   · have e : (vs.set (off + i) u).take (off + (i + 1)) ++ us ++ (vs.set (off + i) u).drop (off + (i + 1) + us.length) = vs.take (off + i) ++ (u :: us) ++ vs.drop (off + i + (u :: us).length) := by
      rw [List.drop_set_of_lt (by omega), show off + (i + 1) = off + i + 1 from by omega, List.take_succ_eq_append_getElem (by simpa using hlt)];simp [List.take_set_of_le, Nat.add_assoc, Nat.add_comm 1]
     rw [e] at h2;refine ⟨h2.os, h2.tape, h2.output, ?_, fun j hj => ?_, h2.here⟩
     · rw [h2.size]; simp [World.setCell]
     · rw [h2.block j hj]; unfold World.setCell; simp only; rw [Array.getElem?_modify, if_neg (Ne.symm hj)]
end Go.Proofs.Ytdikcfjpcgapaaa.Fw
namespace Go.Proofs.Ytdikcfjpcgapaaa.Fw
open Go.RowKit
variable {V : View} {ρ : Nat → Value}
theorem Cells.facts : ∀ {l vs}, Cells V ρ l vs → vs.length = SV.widthL l ∧ ∀ c ∈ vs, Al c
 | [], vs, h => by simp only [Cells] at h; subst h; simp [SV.widthL]
 | x :: l, vs, h => by
   simp only [Cells] at h;obtain ⟨u, us, rfl, h1, h2, h3, h4⟩ := h;obtain ⟨h5, h6⟩ := Cells.facts h4;refine ⟨by simp [SV.widthL, h2, h5], fun c hc => ?_⟩;rcases List.mem_append.1 hc with h | h
   · exact h3 c h
   · exact h6 c h
theorem Conc.flat {x v} (h : Conc V ρ x v) (hf : x.flatB = true) : (Ag v).length = x.width ∧ ∀ c ∈ Ag v, Al c := by
 have one : ∀ v : Value, Al v → (Ag v).length = 1 ∧ ∀ c ∈ Ag v, Al c := fun v hv => by
  cases v <;> simp_all [Al, Ag]
 cases x with
 | pv x => simp only [Conc] at h; exact one v h.one
 | vec n cs => simp only [Conc] at h; obtain ⟨vs, rfl, h1, h2⟩ := h; exact ⟨h1, h2.one⟩
 | agg l => simp only [Conc] at h; obtain ⟨vs, rfl, h1⟩ := h; exact h1.facts
 | tup l => simp [SV.flatB] at hf
 | p n off => simp only [Conc] at h; obtain ⟨b, _, rfl⟩ := h; exact one _ trivial
 | ps n off => simp only [Conc] at h; obtain ⟨b, _, rfl⟩ := h; exact one _ trivial
 | pr n sz i off => simp only [Conc] at h; obtain ⟨b, l, c, _, rfl⟩ := h; exact one _ trivial
 | pi sz es i off => simp only [Conc] at h; obtain ⟨b, o, arr, rfl, _⟩ := h; exact one _ trivial
 | os n => simp only [Conc] at h; exact one v h.2
 | nt n i => simp only [Conc] at h; obtain ⟨_, _, _, h⟩ := h; exact one v h
 | np n i k => simp only [Conc] at h; obtain ⟨_, _, _, _, _, _, rfl⟩ := h; exact one _ trivial
 | ov n z lo hi => simp only [Conc] at h; obtain ⟨_, _, _, _, _, _, _, rfl, _⟩ := h; exact one _ trivial
 | fn f cap => simp only [Conc] at h; obtain ⟨vs, rfl, _⟩ := h; exact one _ trivial
 | dead => simp [SV.flatB] at hf
mutual
theorem Conc.cells : ∀ {x v cs}, Conc V ρ x v → x.cells? = some cs → PCells V cs (Ag v)
 | .pv x, v, cs, h, hc => by
   simp only [SV.cells?, Option.some.injEq] at hc; subst hc;simp only [Conc] at h;have : Ag v = [v] := by have := h.one; cases v <;> simp_all [Al, Ag]
   rw [this]; exact .cons h .nil
 | .vec n l, v, cs, h, hc => by
   simp only [SV.cells?, Option.some.injEq] at hc; subst hc;simp only [Conc] at h; obtain ⟨vs, rfl, h1, h2⟩ := h; exact h2
 | .agg l, v, cs, h, hc => by
   simp only [SV.cells?] at hc;simp only [Conc] at h; obtain ⟨vs, rfl, h1⟩ := h; exact Cells.cells h1 hc
 | .tup _, _, _, _, hc => by simp [SV.cells?] at hc
 | .p _ _, _, _, _, hc => by simp [SV.cells?] at hc
 | .ps _ _, _, _, _, hc => by simp [SV.cells?] at hc
 | .pr _ _ _ _, _, _, _, hc => by simp [SV.cells?] at hc
 | .pi _ _ _ _, _, _, _, hc => by simp [SV.cells?] at hc
 | .os _, _, _, _, hc => by simp [SV.cells?] at hc
 | .nt _ _, _, _, _, hc => by simp [SV.cells?] at hc
 | .np _ _ _, _, _, _, hc => by simp [SV.cells?] at hc
 | .ov _ _ _ _, _, _, _, hc => by simp [SV.cells?] at hc
 | .fn _ _, _, _, _, hc => by simp [SV.cells?] at hc
 | .dead, _, _, _, hc => by simp [SV.cells?] at hc
theorem Cells.cells : ∀ {l vs cs}, Cells V ρ l vs → SV.cellsL? l = some cs → PCells V cs vs
 | [], vs, cs, h, hc => by
   simp only [Cells] at h; subst h; simp only [SV.cellsL?, Option.some.injEq] at hc; subst hc; exact .nil
 | x :: l, vs, cs, h, hc => by
   simp only [Cells] at h;obtain ⟨u, us, rfl, h1, h2, h3, h4⟩ := h;simp only [SV.cellsL?] at hc;cases ha : x.cells? with
   | none => rw [ha] at hc; simp [Ik] at hc
   | some a => cases hb : SV.cellsL? l with
     | none => rw [ha, hb] at hc; simp [Ik] at hc
     | some b =>
       rw [ha, hb] at hc; simp only [Ik, Option.some.injEq] at hc; subst hc;exact (Conc.cells h1 ha).append (Cells.cells h4 hb)
end
theorem PCells.split {cs vs} (h : PCells V cs vs) (n : Nat) : PCells V (cs.take n) (vs.take n) ∧ PCells V (cs.drop n) (vs.drop n) := by
 refine ⟨⟨by simp [h.1], fun j x hj => ?_⟩, ⟨by simp [h.1], fun j x hj => ?_⟩⟩
 · rw [List.getElem?_take] at hj;split at hj
   · rename_i hlt; obtain ⟨v, h1, h2⟩ := h.2 j x hj; exact ⟨v, by rw [List.getElem?_take, if_pos hlt]; exact h1, h2⟩
   · cases hj
 · rw [List.getElem?_drop] at hj;obtain ⟨v, h1, h2⟩ := h.2 _ x hj; exact ⟨v, by rw [List.getElem?_drop]; exact h1, h2⟩
theorem PCells.inv_cons {x cs vs} (h : PCells V (x :: cs) vs) : ∃ v us, vs = v :: us ∧ PConc V x v ∧ PCells V cs us := by
 cases vs with
 | nil => have := h.1; simp at this
 | cons v us =>
   obtain ⟨v', h1, h2⟩ := h.2 0 x rfl;simp at h1; subst h1;exact ⟨v, us, rfl, h2, by simpa using h.1, fun j y hj => by simpa using h.2 (j + 1) y (by simpa using hj)⟩
mutual
theorem Hz : ∀ {x : SV} {cs vs}, x.ok → x.cells? = some cs → PCells V cs vs → ∃ v, Ag v = vs ∧ Conc V ρ x v ∧ (Ag v).length = x.width ∧ (match x with | .pv _ => vs = [v] | _ => v = .agg ⟨vs⟩)
 | .pv x, cs, vs, ho, hc, h => by
   simp only [SV.cells?, Option.some.injEq] at hc; subst hc;obtain ⟨v, us, rfl, h1, h2⟩ := h.inv_cons;have : us = [] := by have := h2.1; simp at this; exact List.eq_nil_of_length_eq_zero this.symm
   subst this;have e : Ag v = [v] := by have := h1.one; cases v <;> simp_all [Al, Ag]
   exact ⟨v, e, by simp only [Conc]; exact h1, by rw [e]; rfl, rfl⟩
 | .vec n l, cs, vs, ho, hc, h => by
   simp only [SV.cells?, Option.some.injEq] at hc; subst hc;simp only [SV.ok] at ho;exact ⟨.agg ⟨vs⟩, rfl, by simp only [Conc]; exact ⟨vs, rfl, by rw [← h.1]; exact ho, h⟩, by simp only [Ag, SV.width]; rw [← h.1]; exact ho, rfl⟩
 | .agg l, cs, vs, ho, hc, h => by
   simp only [SV.cells?] at hc;simp only [SV.ok] at ho;have hcl := Ke (l := l) ho hc h;exact ⟨.agg ⟨vs⟩, rfl, by simp only [Conc]; exact ⟨vs, rfl, hcl⟩, hcl.facts.1, rfl⟩
 | .tup _, _, _, _, hc, _ => by simp [SV.cells?] at hc
 | .p _ _, _, _, _, hc, _ => by simp [SV.cells?] at hc
 | .ps _ _, _, _, _, hc, _ => by simp [SV.cells?] at hc
 | .pr _ _ _ _, _, _, _, hc, _ => by simp [SV.cells?] at hc
 | .pi _ _ _ _, _, _, _, hc, _ => by simp [SV.cells?] at hc
 | .os _, _, _, _, hc, _ => by simp [SV.cells?] at hc
 | .nt _ _, _, _, _, hc, _ => by simp [SV.cells?] at hc
 | .np _ _ _, _, _, _, hc, _ => by simp [SV.cells?] at hc
 | .ov _ _ _ _, _, _, _, hc, _ => by simp [SV.cells?] at hc
 | .fn _ _, _, _, _, hc, _ => by simp [SV.cells?] at hc
 | .dead, _, _, _, hc, _ => by simp [SV.cells?] at hc
theorem Ke : ∀ {l : List SV} {cs vs}, SV.okL l → SV.cellsL? l = some cs → PCells V cs vs → Cells V ρ l vs
 | [], cs, vs, _, hc, h => by
   simp only [SV.cellsL?, Option.some.injEq] at hc; subst hc;have := h.1; simp at this;simp only [Cells]; exact List.eq_nil_of_length_eq_zero this.symm
 | x :: l, cs, vs, ho, hc, h => by
   simp only [SV.okL] at ho;simp only [SV.cellsL?] at hc;cases ha : x.cells? with
   | none => rw [ha] at hc; simp [Ik] at hc
   | some a => cases hb : SV.cellsL? l with
     | none => rw [ha, hb] at hc; simp [Ik] at hc
     | some b =>
       rw [ha, hb] at hc; simp only [Ik, Option.some.injEq] at hc; subst hc;obtain ⟨s1, s2⟩ := h.split a.length;simp only [List.take_left, List.drop_left] at s1 s2;obtain ⟨v, e1, e2, e3, e4⟩ := Hz (x := x) ho.1 ha s1;simp only [Cells];refine ⟨v, vs.drop a.length, by rw [e1, List.take_append_drop], e2, e3, fun c hc => s1.one c (e1 ▸ hc), Ke ho.2 hb s2⟩
end
theorem Abl {x : SV} {ag n} (h : x.form ag n) (hl : ∀ m cs, x = .vec m cs → cs.length = m) : x.ok := by
 cases x <;> simp_all [SV.form, SV.ok]
theorem Ux {x : SV} {ag : Bool} {n : Nat} {cs : List PV} {vs : List Value} (h : x.form ag n) (hc : x.cells? = some cs) (hp : PCells V cs vs) (hn : vs.length = n) :
 if ag then Conc V ρ x (.agg ⟨vs⟩) else ∃ v, vs = [v] ∧ Conc V ρ x v := by
 have hok : x.ok := Abl h fun m cs' e => by
  subst e; simp only [SV.cells?, Option.some.injEq] at hc; subst hc; simp only [SV.form] at h; rw [hp.1, hn, h.2]
 obtain ⟨v, e1, e2, e3, e4⟩ := Hz (ρ := ρ) hok hc hp;cases x with
 | pv x => simp only [SV.form] at h; rw [h.1]; simp only [Bool.false_eq_true, if_false]; exact ⟨v, e4, e2⟩
 | vec m l => simp only [SV.form] at h; rw [h.1]; simp only [if_true]; simp only at e4; exact e4 ▸ e2
 | agg l => simp only [SV.form] at h; rw [h.1]; simp only [if_true]; simp only at e4; exact e4 ▸ e2
 | _ => simp [SV.form] at h
theorem Cells.append : ∀ {a b u v}, Cells V ρ a u → Cells V ρ b v → Cells V ρ (a ++ b) (u ++ v)
 | [], b, u, v, h, k => by simp only [Cells] at h; subst h; simpa using k
 | x :: a, b, u, v, h, k => by
   simp only [Cells] at h;obtain ⟨c, us, rfl, h1, h2, h3, h4⟩ := h;simp only [List.cons_append, Cells];exact ⟨c, us ++ v, by simp, h1, h2, h3, Cells.append h4 k⟩
theorem Uy {x v} (h : Conc V ρ x v) (h1 : (Ag v).length = x.width) (h2 : ∀ c ∈ Ag v, Al c) : Cells V ρ [x] (Ag v) := by
 simp only [Cells]; exact ⟨v, [], by simp, h, h1, h2, rfl⟩
theorem H0 {x v} (h : Conc V ρ x v) (h1 : (Ag v).length = x.width) (h2 : ∀ c ∈ Ag v, Al c) : Cells V ρ x.segs (Ag v) := by
 cases x with
 | agg l => simp only [Conc] at h; obtain ⟨vs, rfl, h3⟩ := h; exact h3
 | _ => exact Uy h h1 h2
theorem F3 {x v} (h : Conc V ρ x v) (hf : x.flatB = true) : Cells V ρ x.segs (Ag v) := H0 h (h.flat hf).1 (h.flat hf).2
theorem R7 : ∀ {l : List SV} {off size : Nat} {l' vs}, Vm l off size = some l' → Cells V ρ l vs → off + size ≤ vs.length ∧ Cells V ρ l' ((vs.drop off).take size)
 | [], off, size, l', vs, h, hc => by
   simp only [Vm] at h;split at h
   · rename_i e; obtain ⟨rfl, rfl⟩ := e; cases h; simp only [Cells] at hc; subst hc; simp [Cells]
   · cases h
 | x :: l, off, size, l', vs, h, hc => by
   have hf := hc.facts;simp only [Cells] at hc;obtain ⟨u, us, rfl, h1, h2, h3, h4⟩ := hc;have hlen : (Ag u ++ us).length = x.width + us.length := by simp [h2]
   simp only [Vm] at h;split at h
   · rename_i e; subst e;split at h
     · rename_i e; subst e; cases h;exact ⟨by simp, by simp [Cells]⟩
     · split at h
       · rename_i e1;cases hr : Vm l 0 (size - x.width) with
         | none => rw [hr] at h; cases h
         | some r =>
           rw [hr] at h; cases h;obtain ⟨i1, i2⟩ := R7 hr h4;refine ⟨by rw [hlen]; omega, ?_⟩;simp only [List.drop_zero] at i2 ⊢;rw [List.take_append, List.take_of_length_le (by omega), h2];simp only [Cells];exact ⟨u, _, rfl, h1, h2, h3, i2⟩
       · cases h
   · rename_i e;split at h
     · rename_i e1;obtain ⟨i1, i2⟩ := R7 h h4;refine ⟨by rw [hlen]; omega, ?_⟩;rw [List.drop_append, List.drop_of_length_le (by omega), h2, List.nil_append];exact i2
     · cases h
theorem Q9 : ∀ {l : List SV} {off size : Nat} {ys l' vs us}, spl l off size ys = some l' → Cells V ρ l vs → Cells V ρ ys us → off + size ≤ vs.length ∧ Cells V ρ l' (vs.take off ++ us ++ vs.drop (off + size))
 | [], off, size, ys, l', vs, us, h, hc, hy => by
   simp only [spl] at h;split at h
   · rename_i e; obtain ⟨rfl, rfl⟩ := e; cases h; simp only [Cells] at hc; subst hc; simp; exact hy
   · cases h
 | x :: l, off, size, ys, l', vs, us, h, hc, hy => by
   have hcc := hc;simp only [Cells] at hc;obtain ⟨u, t, rfl, h1, h2, h3, h4⟩ := hc;have hlen : (Ag u ++ t).length = x.width + t.length := by simp [h2]
   simp only [spl] at h;split at h
   · rename_i e; subst e;split at h
     · rename_i e; subst e; cases h;refine ⟨by simp, ?_⟩;simp only [List.take_zero, List.nil_append, Nat.add_zero, List.drop_zero];exact hy.append hcc
     · split at h
       · rename_i e0 e1;obtain ⟨i1, i2⟩ := Q9 h h4 hy;refine ⟨by rw [hlen]; omega, ?_⟩;simp only [List.take_zero, List.nil_append, Nat.zero_add] at i2 ⊢;rw [List.drop_append, List.drop_of_length_le (by omega), h2, List.nil_append];exact i2
       · cases h
   · rename_i e;split at h
     · rename_i e1;cases hr : spl l (off - x.width) size ys with
       | none => rw [hr] at h; cases h
       | some r =>
         rw [hr] at h; cases h;obtain ⟨i1, i2⟩ := Q9 hr h4 hy;refine ⟨by rw [hlen]; omega, ?_⟩;rw [List.take_append, List.take_of_length_le (by omega), List.drop_append, List.drop_of_length_le (by omega), h2];simp only [Cells];refine ⟨u, _, ?_, h1, h2, h3, i2⟩;simp [show off + size - x.width = off - x.width + size from by omega]
     · cases h
theorem Wy {ag : Bool} {l : List SV} {y : SV} {us : List Value} (h : Nh ag l = some y) (hc : Cells V ρ l us) :
 if ag then Conc V ρ y (.agg ⟨us⟩) else ∃ v, us = [v] ∧ Conc V ρ y v := by
 have hagg : ∀ l : List SV, Cells V ρ l us → Conc V ρ (.agg l) (.agg ⟨us⟩) := fun l h => by simp only [Conc]; exact ⟨us, rfl, h⟩
 rcases l with _ | ⟨x, _ | ⟨z, l⟩⟩
 · simp only [Nh] at h;cases ag <;> simp at h; subst h; exact hagg _ hc
 · have hc' := hc;simp only [Cells] at hc;obtain ⟨u, t, rfl, h1, h2, h3, rfl⟩ := hc;simp only [List.append_nil] at *;cases ag with
   | true =>
     cases x <;> simp only [Nh, if_true, Option.some.injEq] at h <;> subst h <;> simp only [if_true]
     case vec n cs => simp only [Conc] at h1 ⊢; obtain ⟨vs, rfl, a, b⟩ := h1; exact ⟨_, rfl, a, b⟩
     all_goals exact hagg _ hc'
   | false =>
     simp only [Bool.false_eq_true, if_false];have key : ∀ x : SV, x.width = 1 → (∀ c, u = .agg c → Conc V ρ x (.agg c) → ∀ v, Al v → Conc V ρ x v) → Conc V ρ x u → (Ag u).length = 1 → (∀ c ∈ Ag u, Al c) → ∃ v, Ag u = [v] ∧ Conc V ρ x v := by
      intro x _ hx hu hl ho;cases u with
      | agg c =>
        simp only [Ag] at hl ho ⊢;obtain ⟨v, hv⟩ := List.length_eq_one_iff.1 hl;exact ⟨v, hv, hx c rfl hu v (ho v (by rw [hv]; simp))⟩
      | _ => exact ⟨_, rfl, hu⟩
     cases x <;> simp only [Nh, Bool.false_eq_true, if_false, Option.some.injEq, reduceCtorEq] at h <;> subst h <;> refine key _ rfl ?_ h1 h2 h3 <;> intro c hu hcc v hv <;> simp only [Conc] at hcc
     case pv x => have := hcc.one; simp [Al] at this
     case nt => obtain ⟨_, _, _, h⟩ := hcc; exact h.elim
     case np => obtain ⟨_, _, _, _, _, _, h⟩ := hcc; cases h
     case tup => obtain ⟨_, h, _⟩ := hcc; cases h
     case p => obtain ⟨_, _, h⟩ := hcc; cases h
     case ps => obtain ⟨_, _, h⟩ := hcc; cases h
     case pr => obtain ⟨_, _, _, _, h⟩ := hcc; cases h
     case pi => obtain ⟨_, _, _, h, _⟩ := hcc; cases h
     case os => have := hcc.2; simp [Al] at this
     case ov => obtain ⟨_, _, _, _, _, _, _, h, _⟩ := hcc; cases h
     case fn => obtain ⟨_, h, _⟩ := hcc; cases h
     case dead => simp only [Conc]
 · have : Nh ag (x :: z :: l) = if ag then some (.agg (x :: z :: l)) else none := by cases x <;> rfl
   rw [this] at h;cases ag <;> simp at h; subst h; exact hagg _ hc
end Go.Proofs.Ytdikcfjpcgapaaa.Fw
namespace Go.Proofs.Ytdikcfjpcgapaaa.Fw
open Go.RowKit
variable {P : Program} {F : Fr} {N : Nat} {ρ : Nat → Value} {s : FS} {a : Act} {w w' : World} {K : KK}
noncomputable abbrev vw (F : Fr) (w : World) (ρ : Nat → Value) (s : FS) : View := Ak w (F.out ρ s.h)
theorem Pl {α : Type} {l : List α} {off n : Nat} {v : α} (h : (l.drop off).take n = [v]) : l[off]? = some v := by
 have := congrArg (fun l => l[0]?) h;simp only [List.getElem?_take, List.getElem?_drop, List.getElem?_cons_zero, Nat.add_zero] at this;split at this
 · exact this
 · cases this
theorem Eg {t : TypeId} {size : Nat} {ag : Bool} {b off : Nat} {c : Array Value} {ty fr} (hz : Ac P t = some size) (hag : Cc P t = some ag)
 (h : w.heap[b]? = some (.cells c ty fr)) (hn : off + size ≤ c.size) {v : Value}
 (hv : if ag then v = .agg ⟨(c.toList.drop off).take size⟩ else (c.toList.drop off).take size = [v]) :
 (loadVar t ⟨b, off, none⟩).run P w = .ok v w := by
 unfold loadVar;rw [Aa (E0 hag w)];cases ag with
 | true =>
   simp only [if_true] at hv ⊢;rw [Aa (Ay hz w), Aa (Dd h hn)];rw [hv]; rfl
 | false =>
   simp only [Bool.false_eq_true, if_false] at hv ⊢;have := Pl hv;simp only [run_load, Kz h];rw [← Array.getElem?_toList, this]
theorem H5 {ad : Addr} : (Instr.sureAddr (.pointer (some ad))).run P w = .ok ad w := rfl
theorem C5 {t : TypeId} {ad : Addr} {v : Value} (h : (loadVar t ad).run P w = .ok v w) : (Instr.loadAt t (.pointer (some ad))).run P w = .ok v w := by
 unfold Instr.loadAt;rw [Aa H5]; exact h
def Q4 (V : View) (ρ : Nat → Value) (ag : Bool) (us : List Value) (y : SV) : Prop := if ag then Conc V ρ y (.agg ⟨us⟩) else ∃ v, us = [v] ∧ Conc V ρ y v
theorem Ji {V : View} {size off o : Nat} {ag : Bool} {vs : List Value} {oc : Option (List PV)} (hpos : 0 < size)
 (hp : ∀ cs, oc = some cs → PCells V cs ((vs.drop o).take cs.length)) (hl : LoadK oc off size ag K) :
 ∃ y, o + off + size ≤ vs.length ∧ K y [] ∧ Q4 V ρ ag ((vs.drop (o + off)).take size) y := by
 obtain ⟨x, cs, e, hle, hx, hf, hK⟩ := hl.old;have hp := hp cs e;have hlen := hp.1;simp only [List.length_take, List.length_drop] at hlen;have hpc := (hp.split off).2.split size |>.1;have e2 : (((vs.drop o).take cs.length).drop off).take size = (vs.drop (o + off)).take size := by
  rw [List.drop_take, List.take_take, List.drop_drop, Nat.min_eq_left (by omega)]
 rw [e2] at hpc;exact ⟨x, by omega, hK, Ux (ρ := ρ) hf hx hpc (by simp; omega)⟩
theorem Na {V : View} {t : TypeId} {size off : Nat} {ag : Bool} {b : Nat} {vs : List Value} {ty fr} {y : SV} (hz : Ac P t = some size) (hag : Cc P t = some ag)
 (h : w.heap[b]? = some (.cells ⟨vs⟩ ty fr)) (hn : off + size ≤ vs.length) (hp : Q4 V ρ ag ((vs.drop off).take size) y) :
 ∃ v, (loadVar t ⟨b, off, none⟩).run P w = .ok v w ∧ Conc V ρ y v := by
 cases ag with
 | true => simp only [Q4, if_true] at hp; exact ⟨_, Eg hz hag h hn (by simp), hp⟩
 | false =>
   simp only [Q4, Bool.false_eq_true, if_false] at hp;obtain ⟨v, e3, hcv⟩ := hp;exact ⟨v, Eg hz hag h hn (by simp [e3]), hcv⟩
theorem Lw {V : View} {t : TypeId} {size off o : Nat} {ag : Bool} {b : Nat} {c : Array Value} {ty fr} {oc : Option (List PV)} (hpos : 0 < size) (hz : Ac P t = some size) (hag : Cc P t = some ag)
 (h : w.heap[b]? = some (.cells c ty fr)) (hp : ∀ cs, oc = some cs → PCells V cs ((c.toList.drop o).take cs.length)) (hl : LoadK oc off size ag K) :
 ∃ v y, (loadVar t ⟨b, o + off, none⟩).run P w = .ok v w ∧ K y [] ∧ Conc V ρ y v := by
 obtain ⟨y, h1, h2, h3⟩ := Ji (ρ := ρ) hpos hp hl;obtain ⟨v, h4, h5⟩ := Na (vs := c.toList) hz hag (by simpa using h) h1 h3;exact ⟨v, y, h4, h2, h5⟩
theorem De {O : Nat → Prop} {b : Nat} {arr : Array Value} (h : Ak w O b = some arr) : ¬ O b ∧ ∃ ty fr, w.heap[b]? = some (.cells arr ty fr) := by
 unfold Ak at h;split at h
 · cases h
 · rename_i ho;refine ⟨ho, ?_⟩;unfold A3 at h;split at h
   · rename_i c ty fr hc; cases h; exact ⟨ty, fr, hc⟩
   · cases h
theorem Jj {V : View} {size off : Nat} {ag : Bool} {vs : List Value} {x : SV} {u : Value} (hpos : 0 < size)
 (hu : Conc V ρ x u) (hvs : vs = Ag u) (hw : vs.length = x.width) (ho : ∀ c ∈ vs, Al c) (hl : Hg x off size ag K) :
 ∃ y, off + size ≤ vs.length ∧ K y [] ∧ Q4 V ρ ag ((vs.drop off).take size) y := by
 unfold Hg Ro at hl;split at hl
 · rename_i v' hb;obtain ⟨l', hcut, hmk⟩ := Option.bind_eq_some_iff.1 hb;have hs := H0 hu (hvs ▸ hw) (hvs ▸ ho);rw [← hvs] at hs;obtain ⟨h1, h2⟩ := R7 hcut hs;exact ⟨v', h1, hl, Wy hmk h2⟩
 · have := Ji (ρ := ρ) (o := 0) (vs := vs) hpos (fun cs e => by
    have := hu.cells e;rw [← hvs] at this;simp only [List.drop_zero]; rw [List.take_of_length_le (by simp [this.1])]; exact this) hl
   simpa using this
theorem W7 {V : View} {t : TypeId} {size off : Nat} {ag : Bool} {b : Nat} {vs : List Value} {ty fr} {x : SV} {u : Value} (hpos : 0 < size) (hz : Ac P t = some size) (hag : Cc P t = some ag)
 (h : w.heap[b]? = some (.cells ⟨vs⟩ ty fr)) (hu : Conc V ρ x u) (hvs : vs = Ag u) (hw : vs.length = x.width) (ho : ∀ c ∈ vs, Al c) (hl : Hg x off size ag K) :
 ∃ v y, (loadVar t ⟨b, off, none⟩).run P w = .ok v w ∧ K y [] ∧ Conc V ρ y v := by
 obtain ⟨y, h1, h2, h3⟩ := Jj hpos hu hvs hw ho hl;obtain ⟨v, h4, h5⟩ := Na hz hag h h1 h3;exact ⟨v, y, h4, h2, h5⟩
theorem E1 {V : View} {sz i : Nat} {es : List (List PV)} {n : Nat} (h : Own w V ρ n (.row sz es)) (hi : i < es.length) :
 ∃ b len cap vs ty fr, ρ n = .slice (some ⟨b, 0, none⟩) len cap ∧ w.heap[b]? = some (.cells ⟨vs⟩ ty fr) ∧ rowFroz sz fr vs.length ∧ (∀ c ∈ vs, Al c) ∧ vs.length = cap * sz ∧ es.length ≤ cap ∧ cap ≠ 0 ∧ 0 < sz ∧
  (∀ c ∈ es, c.length = sz) ∧ len = es.length ∧ (∀ i c, es[i]? = some c → PCells V c ((vs.drop (i * sz)).take sz)) := by
 obtain ⟨base, cap, h1, h2, h3, h4, h5⟩ := h;have hc : cap ≠ 0 := by omega
 obtain ⟨b, vs, ty, fr, rfl, e2, e3, e4, e5, e6⟩ := h5 hc;exact ⟨b, _, cap, vs, ty, fr, h1, e2, e4, e5, e3, h2, hc, h3, h4, rfl, e6⟩
theorem Lf {V : View} {es : List (List PV)} {k b len cap : Nat} {x : PV} (h : SlV w V (.slice (some ⟨b, 0, none⟩) len cap) 1 es) (hk : es[k]? = some [x]) :
 ∃ vs ty fr u, w.heap[b]? = some (.cells ⟨vs⟩ ty fr) ∧ vs[k]? = some u ∧ PConc V x u ∧ len = es.length ∧ cap ≠ 0 ∧ rowFroz 1 fr vs.length ∧ (∀ c ∈ vs, Al c) ∧ vs.length = cap ∧ es.length ≤ cap ∧ ∀ i c, es[i]? = some c → PCells V c ((vs.drop i).take 1) := by
 obtain ⟨base, cap', e, h2, h3, h4, h5⟩ := h;cases e;have hlt : k < es.length := (List.getElem?_eq_some_iff.1 hk).1;have hc : cap ≠ 0 := by omega
 obtain ⟨b', vs, ty, fr, e1, e2, e3, e4, e5, e6⟩ := h5 hc;cases e1;obtain ⟨u, g1, g2⟩ := (e6 k _ hk).2 0 x rfl;rw [Nat.mul_one] at g1;have : vs[k]? = some u := by
  rw [List.getElem?_take, List.getElem?_drop] at g1;simpa using g1
 exact ⟨vs, ty, fr, u, e2, this, g2, rfl, hc, e4, e5, by rw [e3, Nat.mul_one], h2, fun i c hi => by have := e6 i c hi; rwa [Nat.mul_one] at this⟩
theorem Sc {l : List UInt8} {k : Nat} {b : UInt8} (h : l[k]? = some b) : (Ad l)[k]? = some [.i .u8 b.toNat] := by simp [Ad, h]
theorem E6 {V : View} {n i : Nat} {es : List (List UInt8)} {l : List Value} {v : Value} (h : Own w V ρ n (.nest es)) (hl : ρ n = .tuple ⟨l⟩) (hi : l[i]? = some v) :
 (i = 0 ∧ ∃ cs, l = v :: cs ∧ cs.length = es.length ∧ SlV w V v 1 (cs.map fun c => [.v c])) ∨ ∃ j b, i = j + 1 ∧ es[j]? = some b ∧ SlV w V v 1 (Ad b) := by
 obtain ⟨o, cs, h1, h2, h3, h4, _⟩ := h;rw [hl] at h1; cases h1;cases i with
 | zero => cases hi; exact .inl ⟨rfl, cs, rfl, h2, h3⟩
 | succ j =>
   have hj : cs[j]? = some v := hi;have hlt : j < es.length := by have := (List.getElem?_eq_some_iff.1 hj).1; omega
   exact .inr ⟨j, _, rfl, List.getElem?_eq_getElem hlt, h4 j v _ hj (List.getElem?_eq_getElem hlt)⟩
theorem P3 (hR : RelR F N ρ s a w) {n i k : Nat} {v : Value} (h : Fl (s.h n) i = some k) (hv : Conc (vw F w ρ s) ρ (.nt n i) v) : ∃ rows, SlV w (vw F w ρ s) v 1 rows ∧ rows.length = k := by
 unfold Fl at h;simp only [Conc] at hv;obtain ⟨l, e1, e2, e3⟩ := hv;split at h
 · rename_i es hn;rcases E6 (hR.own n _ hn) e1 e2 with ⟨rfl, cs, rfl, e4, e5⟩ | ⟨j, b, rfl, e4, e5⟩
   · cases h; exact ⟨_, e5, by simp [e4]⟩
   · simp only [e4, Option.map_some, Option.some.injEq] at h;exact ⟨_, e5, by simp [Ad, h]⟩
 · cases h
theorem Vz {V : View} {v : Value} {rows : List (List PV)} (h : SlV w V v 1 rows) (hk : 0 < rows.length) : ∃ b cap, v = .slice (some ⟨b, 0, none⟩) rows.length cap := by
 obtain ⟨base, cap, rfl, h2, _, _, h5⟩ := h;obtain ⟨b, vs, ty, fr, rfl, _⟩ := h5 (by omega);exact ⟨b, cap, rfl⟩
theorem E2 {vs : List Value} {k : Nat} {u : Value} (h : vs[k]? = some u) : (vs.drop k).take 1 = [u] := by
 obtain ⟨h1, rfl⟩ := List.getElem?_eq_some_iff.1 h;rw [List.drop_eq_getElem_cons h1]; rfl
theorem Acv {t : TypeId} {size : Nat} {ag : Bool} {x : SV} {v : Value} (hR : RelR F N ρ s a w) (hc : Conc (vw F w ρ s) ρ x v) (hpos : 0 < size) (hz : Ac P t = some size) (hag : Cc P t = some ag)
 (h : Dk s.h size ag x K) : ∃ v' y, (Instr.loadAt t v).run P w = .ok v' w ∧ K y [] ∧ Conc (vw F w ρ s) ρ y v' := by
 cases x with
 | p n off =>
   simp only [Dk, ldV] at h;split at h
   · rename_i x hn;obtain ⟨b, vs, ty, fr, u, h1, h2, h3, h4, h5, h6, h7⟩ := hR.own n _ hn;simp only [Conc] at hc;obtain ⟨b', e1, rfl⟩ := hc;rw [h1] at e1; cases e1;obtain ⟨v', y, k1, k2⟩ := W7 hpos hz hag h2 h4 h5 h6 h7 h;exact ⟨v', y, C5 k1, k2⟩
   · exact h.elim
 | ps n off =>
   simp only [Dk, ldS] at h;split at h
   · rename_i x hn;obtain ⟨b, vs, ty, fr, u, h1, h2, h3, h4, h5, h6, h7⟩ := hR.own n _ hn;simp only [Conc] at hc;obtain ⟨b', e1, rfl⟩ := hc;rw [h1] at e1; cases e1;obtain ⟨v', y, k1, k2⟩ := Lw (ρ := ρ) (o := 0) hpos hz hag h2 (fun cs e => by
      have := h4.cells e;rw [← h5] at this;simp only [List.drop_zero]; rw [List.take_of_length_le (by simp [this.1])]; exact this) h
     exact ⟨v', y, C5 (by simpa using k1), k2⟩
   · exact h.elim
 | pr n sz i off =>
   simp only [Dk, ldR] at h;split at h
   · rename_i sz' es hn;obtain ⟨rfl, h⟩ := h;have hi : i < es.length := by
      obtain ⟨x, cs, e, _⟩ := LoadK.old h;exact (List.getElem?_eq_some_iff.1 e).1
     obtain ⟨b, len, cap, vs, ty, fr, h1, h2, h3, h4, h5, h6, h7, h8, h9, h10, h11⟩ := E1 (hR.own n _ hn) hi;simp only [Conc] at hc;obtain ⟨b', l, c, e1, rfl⟩ := hc;rw [h1] at e1; cases e1;obtain ⟨v', y, k1, k2⟩ := Lw (ρ := ρ) (o := i * sz) hpos hz hag h2 (fun cs e => by
      rw [h9 cs (List.mem_of_getElem? e)]; exact h11 i cs e) h
     exact ⟨v', y, C5 k1, k2⟩
   · exact h.elim
 | pi sz es i off =>
   simp only [Dk] at h;simp only [Conc] at hc;obtain ⟨b, o, arr, rfl, hV, hel⟩ := hc;obtain ⟨_, ty, fr, hb⟩ := De hV;obtain ⟨v', y, k1, k2⟩ := Lw (ρ := ρ) (o := o + i * sz) hpos hz hag hb (fun cs e => by
    have := hel cs e;rw [this.1]; exact this.2) h
   exact ⟨v', y, C5 (by rw [← Nat.add_assoc]; exact k1), k2⟩
 | np n i k =>
   simp only [Dk, Rq] at h;split at h
   · rename_i es hn;obtain ⟨rfl, rfl, h⟩ := h;simp only [Conc] at hc;obtain ⟨l, b, len, cap, e1, e2, rfl⟩ := hc;rcases E6 (hR.own n _ hn) e1 e2 with ⟨rfl, cs, rfl, e3, e4⟩ | ⟨j, bs, rfl, e3, e4⟩
     · simp only at h;obtain ⟨h1, h2⟩ := h;have hlt : k < cs.length := by omega
       obtain ⟨vs, ty, fr, u, g1, g2, g3, _⟩ := Lf (k := k) (x := .v cs[k]) e4 (by simp [hlt]);have hu : u = cs[k] := by cases g3; rfl
       refine ⟨u, .nt n (k + 1), C5 (Eg hz hag g1 (by have := (List.getElem?_eq_some_iff.1 g2).1; show k + 1 ≤ vs.length; omega) (by simpa using E2 g2)), h2, ?_⟩;simp only [Conc];exact ⟨_, e1, by rw [hu]; simp [hlt], g3.one⟩
     · simp only [e3, T6] at h;obtain ⟨b0, h1, h2⟩ := h;obtain ⟨vs, ty, fr, u, g1, g2, g3, _⟩ := Lf (k := k) e4 (Sc h1);refine ⟨u, .pv (.i .u8 b0.toNat), C5 (Eg hz hag g1 (by have := (List.getElem?_eq_some_iff.1 g2).1; show k + 1 ≤ vs.length; omega) (by simpa using E2 g2)), h2, ?_⟩;simp only [Conc]; exact g3
   · exact h.elim
 | _ => exact h.elim
end Go.Proofs.Ytdikcfjpcgapaaa.Fw
namespace Go.Proofs.Ytdikcfjpcgapaaa.Fw
open Go.RowKit
variable {P : Program} {F : Fr} {N : Nat} {ρ : Nat → Value} {s : FS} {a : Act} {w w' : World} {K : KK}
theorem Df {α : Type} (vs us : List α) (p : Nat) (h : p + us.length ≤ vs.length) (k : Nat) :
 (vs.take p ++ us ++ vs.drop (p + us.length))[k]? = if k < p then vs[k]? else if k < p + us.length then us[k - p]? else vs[k]? := by
 have hp : (vs.take p).length = p := by simp; omega
 by_cases h1 : k < p
 · rw [if_pos h1, List.getElem?_append_left (by simp; omega), List.getElem?_append_left (by omega), List.getElem?_take, if_pos h1]
 · rw [if_neg h1];by_cases h2 : k < p + us.length
   · rw [if_pos h2, List.getElem?_append_left (by simp; omega), List.getElem?_append_right (by omega), hp]
   · rw [if_neg h2, List.getElem?_append_right (by simp; omega), List.getElem?_drop];congr 1; simp; omega
theorem Au {α : Type} (vs us : List α) (p : Nat) (h : p + us.length ≤ vs.length) : (vs.take p ++ us ++ vs.drop (p + us.length)).length = vs.length := by
 simp; omega
theorem PCells.splice {V : View} {cs ys : List PV} {vs us : List Value} {off : Nat} (h : PCells V cs vs) (k : PCells V ys us) (hn : off + us.length ≤ vs.length) :
 PCells V (Fw.splice cs off ys) (vs.take off ++ us ++ vs.drop (off + us.length)) := by
 unfold Fw.splice;have h1 := h.1; have h2 := k.1;refine ⟨by rw [Au _ _ _ hn, Au _ _ _ (by omega)]; exact h1, fun j x hj => ?_⟩;rw [Df _ _ _ (by omega)] at hj;rw [Df _ _ _ hn, ← h2];split at hj
 · rename_i e; rw [if_pos e]; exact h.2 j x hj
 · rename_i e; rw [if_neg e];split at hj
   · rename_i e2; rw [if_pos e2]; exact k.2 _ x hj
   · rename_i e2; rw [if_neg e2]; exact h.2 j x hj
theorem Fq (u : Value) : u.cells.size = (Ag u).length := by rw [← B9]; simp
theorem Dg {t : TypeId} {size : Nat} {b off : Nat} {vs : List Value} {ty fr} {u : Value} (hz : Ac P t = some size) (h : w.heap[b]? = some (.cells ⟨vs⟩ ty fr)) (hf : noFroz fr vs.length)
 (hlen : (Ag u).length = size) (ho : ∀ c ∈ Ag u, Al c) (hn : off + size ≤ vs.length) :
 ∃ w', (Instr.storeAt t (.pointer (some ⟨b, off, none⟩)) u).run P w = .ok () w' ∧ Wrote w w' b (vs.take off ++ Ag u ++ vs.drop (off + size)) ty fr := by
 obtain ⟨w', h1, h2⟩ := Bu (P := P) (Ag u) 0 (off := off) h hf ho (by omega);refine ⟨w', ?_, by simpa [hlen] using h2⟩;unfold Instr.storeAt;rw [Aa H5];unfold storeVar;rw [Aa (Ay hz w)];simp only [Fq, hlen, ne_eq, not_true_eq_false, if_false, B9];simpa using h1
theorem RelR.wrote (hR : RelR F N ρ s a w) {n : Nat} {old blk : Blk} {b : Nat} {vs : List Value} {ty fr} (hn : s.h n = some old) (hb : A1 (ρ n) b) (hw : Wrote w w' b vs ty fr)
 (hown : Own w' (vw F w ρ s) ρ n blk) : RelR F N ρ (s.hup [.upd n blk]) a w' :=
 (hR.upd n old blk hn b hb hw.os hw.tape hw.output hw.size hw.block hown).1
theorem Oh {V : View} {n b : Nat} {vs : List Value} {ty fr} {x : SV} {u : Value} (h1 : ρ n = .pointer (some ⟨b, 0, none⟩)) (h2 : w.heap[b]? = some (.cells ⟨vs⟩ ty fr)) (hf : noFroz fr vs.length)
 (hx : Conc V ρ x u) (hvs : vs = Ag u) (hl : vs.length = x.width) (ho : ∀ c ∈ vs, Al c) : Own w V ρ n (.var x) := ⟨b, vs, ty, fr, u, h1, h2, hf, hx, hvs, hl, ho⟩
theorem Le {t : TypeId} {size off n b : Nat} {x y : SV} {v u : Value} {vs : List Value} {ty fr} (hR : RelR F N ρ s a w) (hz : Ac P t = some size)
 (hn : s.h n = some (.var x)) (h1 : ρ n = .pointer (some ⟨b, 0, none⟩)) (h2 : w.heap[b]? = some (.cells ⟨vs⟩ ty fr)) (h3 : noFroz fr vs.length) (h4 : Conc (vw F w ρ s) ρ x v) (h5 : vs = Ag v)
 (h6 : vs.length = x.width) (h7 : ∀ c ∈ vs, Al c) (hy : Conc (vw F w ρ s) ρ y u) (hyw : y.width = size) (hyf : y.flatB = true) (h : Gv n x.width off size x.cells? y.cells? K) :
 ∃ w' hu, (Instr.storeAt t (.pointer (some ⟨b, off, none⟩)) u).run P w = .ok () w' ∧ K .dead hu ∧ RelR F N ρ (s.hup hu) a w' := by
 unfold Gv at h;split at h
 · rename_i cs ys hcs hys;obtain ⟨hle, hK⟩ := h;have hyl := hy.flat hyf;rw [hyw] at hyl;obtain ⟨w', hr, hw⟩ := Dg (P := P) hz h2 h3 hyl.1 hyl.2 (off := off) (by omega);refine ⟨w', _, hr, hK, hR.wrote hn (by rw [h1]; rfl) hw ?_⟩;have hp := h4.cells hcs;rw [← h5] at hp;have hq := PCells.splice hp (hy.cells hys) (off := off) (by omega);rw [hyl.1] at hq;have hlen := Au vs (Ag u) off (by omega);rw [hyl.1] at hlen;exact Oh (u := .agg ⟨vs.take off ++ Ag u ++ vs.drop (off + size)⟩) h1 hw.here (by rw [hlen]; exact h3) (by simp only [Conc]; exact ⟨_, rfl, by rw [hlen, h6], hq⟩) rfl (by rw [hlen, h6]; rfl) hq.one
 · exact h.elim
theorem Aev {V : View} {k n v} (h : Conc V ρ (.pv (.i k n)) v) : v = .int k n := by simp only [Conc] at h; cases h; rfl
theorem Ad4 {l : List Value} (h : l.Pairwise fun x y => ∀ b, D9 x b → ¬ D9 y b) {i j : Nat} {x y : Value} (hi : l[i]? = some x) (hj : l[j]? = some y) (hij : i ≠ j) {b : Nat} (hx : D9 x b) (hy : D9 y b) : False := by
 obtain ⟨hi1, rfl⟩ := List.getElem?_eq_some_iff.1 hi;obtain ⟨hj1, rfl⟩ := List.getElem?_eq_some_iff.1 hj;have hp := List.pairwise_iff_getElem.1 h;rcases Nat.lt_or_gt_of_ne hij with e | e
 · exact hp i j hi1 hj1 e b hx hy
 · exact hp j i hj1 hi1 e b hy hx
theorem Z1 {V : View} {b len cap k : Nat} {l : List UInt8} {b0 : UInt8} {vs : List Value} {ty fr} (h : SlV w V (.slice (some ⟨b, 0, none⟩) len cap) 1 (Ad l)) (hk : k < l.length) (hv : w.heap[b]? = some (.cells ⟨vs⟩ ty fr))
 (hw : Wrote w w' b (vs.take k ++ [.int .u8 b0.toNat] ++ vs.drop (k + 1)) ty fr) : SlV w' V (.slice (some ⟨b, 0, none⟩) len cap) 1 (Ad (l.set k b0)) := by
 obtain ⟨base, cap', e, h2, h3, h4, h5⟩ := h;cases e;have hlen : (Ad l).length = l.length := by simp [Ad]
 have hlen2 : (Ad (l.set k b0)).length = l.length := by simp [Ad]
 have hc : cap ≠ 0 := by omega
 obtain ⟨b', vs', ty', fr', e1, e2, e3, e4, e5, e6⟩ := h5 hc;cases e1;rw [hv] at e2; cases e2;have hkv : k + [Value.int .u8 b0.toNat].length ≤ vs.length := by simp only [List.length_singleton]; omega
 have hL := Au vs [.int .u8 b0.toNat] k hkv;have hG := Df vs [.int .u8 b0.toNat] k hkv;simp only [List.length_singleton] at hL hG;refine ⟨some ⟨b, 0, none⟩, cap, by rw [hlen2, hlen], by omega, by omega, (by intro c hc; simp only [Ad, List.mem_map] at hc; obtain ⟨_, _, rfl⟩ := hc; rfl), fun _ => ⟨b, _, ty, fr, rfl, hw.here, by rw [hL, e3], by rw [hL]; exact e4, ?_, ?_⟩⟩
 · intro c hc;simp only [List.mem_append, List.mem_singleton] at hc;rcases hc with (hc | rfl) | hc
   · exact e5 c (List.mem_of_mem_take hc)
   · trivial
   · exact e5 c (List.mem_of_mem_drop hc)
 · intro i c hi;have hil : i < l.length := by have := (List.getElem?_eq_some_iff.1 hi).1; omega
   rw [Nat.mul_one];by_cases hik : i = k
   · subst hik;have hc2 : c = [.i .u8 b0.toNat] := by
      simp only [Ad, List.getElem?_map, List.getElem?_set_self hil, Option.map_some, Option.some.injEq] at hi;exact hi.symm
     have hg := hG i;rw [if_neg (by omega), if_pos (by omega), Nat.sub_self] at hg;rw [E2 hg, hc2];exact .cons (.i _ _) .nil
   · have hi2 : (Ad l)[i]? = some c := by
      simp only [Ad, List.getElem?_map, List.getElem?_set_ne (Ne.symm hik)] at hi ⊢;exact hi
     have h7 := e6 i c hi2;rw [Nat.mul_one] at h7;have hg : (vs.take k ++ [Value.int .u8 b0.toNat] ++ vs.drop (k + 1))[i]? = vs[i]? := by
      rw [hG i];by_cases h8 : i < k
      · rw [if_pos h8]
      · rw [if_neg h8, if_neg (by omega)]
     have hiv : i < vs.length := by omega
     rw [E2 (by rw [hg]; exact List.getElem?_eq_getElem hiv)];rw [E2 (List.getElem?_eq_getElem hiv)] at h7;exact h7
theorem Agn {t : TypeId} {size : Nat} {x y : SV} {v u : Value} (hR : RelR F N ρ s a w) (hx : Conc (vw F w ρ s) ρ x v) (hy : Conc (vw F w ρ s) ρ y u) (hz : Ac P t = some size)
 (h : Ez s.h size x y K) : ∃ w' hu, (Instr.storeAt t v u).run P w = .ok () w' ∧ K .dead hu ∧ RelR F N ρ (s.hup hu) a w' := by
 cases x with
 | p n off =>
   simp only [Ez, stV] at h;split at h
   · rename_i x hn;obtain ⟨hyw, hyf, h⟩ := h;obtain ⟨b, vs, ty, fr, u0, h1, h2, h3, h4, h5, h6, h7⟩ := hR.own n _ hn;simp only [Conc] at hx;obtain ⟨b', e1, rfl⟩ := hx;rw [h1] at e1; cases e1;have hyl := hy.flat hyf;unfold M8 at h;split at h
     · rename_i e; obtain ⟨rfl, e⟩ := e;obtain ⟨w', hr, hw⟩ := Dg (P := P) hz h2 h3 (by rw [hyl.1, hyw]) hyl.2 (off := 0) (by omega);refine ⟨w', _, hr, h, hR.wrote hn (by rw [h1]; rfl) hw ?_⟩;have hw := hw.here;rw [List.take_zero, List.nil_append, List.drop_of_length_le (by omega), List.append_nil] at hw;exact Oh h1 hw (by rw [hyl.1, hyw, e, ← h6]; exact h3) hy rfl hyl.1 hyl.2
     · unfold Po at h;split at h
       · rename_i l hl;have hs := H0 h4 (h5 ▸ h6) (h5 ▸ h7);rw [← h5] at hs;obtain ⟨k1, k2⟩ := Q9 hl hs (F3 hy hyf);obtain ⟨w', hr, hw⟩ := Dg (P := P) hz h2 h3 (by rw [hyl.1, hyw]) hyl.2 k1;refine ⟨w', _, hr, h, hR.wrote hn (by rw [h1]; rfl) hw ?_⟩;have hlen := Au vs (Ag u) off (by rw [hyl.1, hyw]; exact k1);rw [hyl.1, hyw] at hlen;exact Oh (u := .agg ⟨vs.take off ++ Ag u ++ vs.drop (off + size)⟩) h1 hw.here (by rw [hlen]; exact h3) (by simp only [Conc]; exact ⟨_, rfl, k2⟩) rfl k2.facts.1 k2.facts.2
       · exact Le hR hz hn h1 h2 h3 h4 h5 h6 h7 hy hyw hyf h
   · exact h.elim
 | ps n off =>
   simp only [Ez, stS] at h;split at h
   · rename_i x hn;obtain ⟨hyw, hyf, h⟩ := h;obtain ⟨b, vs, ty, fr, u0, h1, h2, h3, h4, h5, h6, h7⟩ := hR.own n _ hn;simp only [Conc] at hx;obtain ⟨b', e1, rfl⟩ := hx;rw [h1] at e1; cases e1;exact Le hR hz hn h1 h2 h3 h4 h5 h6 h7 hy hyw hyf h
   · exact h.elim
 | pr n sz i off =>
   simp only [Ez, stR] at h;split at h
   · rename_i sz' es hn;obtain ⟨hyw, hyf, rfl, h⟩ := h;unfold Ja at h;split at h
     · rename_i ys hys;obtain ⟨hi, hle, h⟩ := h;obtain ⟨b, len, cap, vs, ty, fr, h1, h2, h3, h4, h5, h6, h7, h8, h9, rfl, h11⟩ := E1 (hR.own n _ hn) hi;simp only [Conc] at hx;obtain ⟨b', l, c, e1, rfl⟩ := hx;rw [h1] at e1; cases e1;have hyl := hy.flat hyf;rw [hyw] at hyl;have hin : (i + 1) * sz ≤ vs.length := by rw [h5]; exact Nat.mul_le_mul_right _ (by omega)
       have hin' : i * sz + sz ≤ vs.length := by rw [Nat.succ_mul] at hin; exact hin
       obtain ⟨w', hr, hw⟩ := Dg (P := P) hz h2 h3.no hyl.1 hyl.2 (off := i * sz + off) (by omega);refine ⟨w', _, hr, h, hR.wrote hn (by rw [h1]; simp [A1, h7]) hw ?_⟩;have hlen := Au vs (Ag u) (i * sz + off) (by omega);have hget := Df vs (Ag u) (i * sz + off) (by omega);rw [hyl.1] at hlen hget;have hei : es[i]? = some es[i] := List.getElem?_eq_getElem hi;have hyc := hy.cells hys;have hc0 := h11 i _ hei;have hl0 : es[i].length = sz := h9 _ (List.getElem_mem hi);have hlen2 : ys.length = size := by rw [hyc.1, hyl.1]
       have hgd : es.getD i [] = es[i] := by simp [List.getD_eq_getElem?_getD, hi]
       have hsl : (Fw.splice es[i] off ys).length = sz := by unfold Fw.splice; rw [Au _ _ _ (by omega)]; exact hl0
       refine ⟨some ⟨b, 0, none⟩, cap, by rw [h1]; simp, by simpa using h6, h8, ?_, fun _ => ⟨b, _, ty, fr, rfl, hw.here, by rw [hlen, h5], by rw [hlen]; exact h3, ?_, ?_⟩⟩
       · intro c hc;rcases List.mem_or_eq_of_mem_set hc with hc | rfl
         · exact h9 c hc
         · rw [hgd]; exact hsl
       · intro c hc;simp only [List.mem_append] at hc;rcases hc with (hc | hc) | hc
         · exact h4 c (List.mem_of_mem_take hc)
         · exact hyl.2 c hc
         · exact h4 c (List.mem_of_mem_drop hc)
       · intro j c hj;by_cases hij : i = j
         · subst hij;rw [List.getElem?_set_self hi, hgd] at hj; cases hj;have := PCells.splice hc0 hyc (off := off) (by simp [hyl.1]; omega);refine ⟨by rw [hsl]; simp; omega, fun q x hq => ?_⟩;obtain ⟨v, a1, a2⟩ := this.2 q x hq;refine ⟨v, ?_, a2⟩;have hqlt : q < sz := by have := (List.getElem?_eq_some_iff.1 hq).1; omega
           rw [Df _ _ _ (by simp [hyl.1]; omega)] at a1;rw [List.getElem?_take, if_pos hqlt, List.getElem?_drop, hget];rw [hyl.1] at a1;by_cases q1 : q < off
           · rw [if_pos q1] at a1;rw [if_pos (by omega)];rw [List.getElem?_take, if_pos hqlt, List.getElem?_drop] at a1; exact a1
           · rw [if_neg q1] at a1; rw [if_neg (by omega)];by_cases q2 : q < off + size
             · rw [if_pos q2] at a1; rw [if_pos (by omega), show i * sz + q - (i * sz + off) = q - off from by omega]; exact a1
             · rw [if_neg q2] at a1; rw [if_neg (by omega)];rw [List.getElem?_take, if_pos hqlt, List.getElem?_drop] at a1; exact a1
         · rw [List.getElem?_set_ne hij] at hj;have hcj := h11 j c hj;have hjl : c.length = sz := h9 c (List.mem_of_getElem? hj);have hjlt : j < es.length := (List.getElem?_eq_some_iff.1 hj).1;have hjn : j * sz + sz ≤ vs.length := by
            have : (j + 1) * sz ≤ cap * sz := Nat.mul_le_mul_right _ (by omega);rw [Nat.succ_mul] at this; omega
           have hsep : j * sz + sz ≤ i * sz ∨ i * sz + sz ≤ j * sz := by
            rcases Nat.lt_or_gt_of_ne hij with e | e
            · right; have : (i + 1) * sz ≤ j * sz := Nat.mul_le_mul_right _ e;rw [Nat.succ_mul] at this; exact this
            · left; have : (j + 1) * sz ≤ i * sz := Nat.mul_le_mul_right _ e;rw [Nat.succ_mul] at this; exact this
           refine ⟨by rw [hjl]; simp; omega, fun q x hq => ?_⟩;obtain ⟨v, a1, a2⟩ := hcj.2 q x hq;have hqlt : q < sz := by have := (List.getElem?_eq_some_iff.1 hq).1; omega
           refine ⟨v, ?_, a2⟩;rw [List.getElem?_take, if_pos hqlt, List.getElem?_drop] at a1 ⊢;rw [hget];rcases hsep with e | e
           · rw [if_pos (by omega)]; exact a1
           · rw [if_neg (by omega), if_neg (by omega)]; exact a1
     · exact h.elim
   · exact h.elim
 | np n i k =>
   simp only [Ez, Q8] at h;split at h
   · rename_i es hn;obtain ⟨rfl, j, l0, b0, rfl, h1, h2, rfl, h⟩ := h;have ho := hR.own n _ hn;simp only [Conc] at hx;obtain ⟨l, b, len, cap, e1, e2, rfl⟩ := hx;have hu := Aev hy;subst hu;obtain ⟨o, cs, g1, g2, g3, g4, g5⟩ := ho;rw [e1] at g1; cases g1;have hj : cs[j]? = some (.slice (some ⟨b, 0, none⟩) len cap) := e2;have hS := g4 j _ l0 hj h1;obtain ⟨vs, ty, fr, u0, k1, k2, k3, k4, k5, k6, k7, k8, k9, k10⟩ := Lf (k := k) (x := .i .u8 (l0[k]).toNat) hS (by simp [Ad, h2]);have hkl : k < vs.length := (List.getElem?_eq_some_iff.1 k2).1;obtain ⟨w', hr, hw⟩ := Dg (P := P) hz k1 k6.no (u := .int .u8 b0.toNat) rfl (by simp [Ag, Al]) (off := k) (by omega);refine ⟨w', _, hr, h, hR.wrote hn (by rw [e1]; exact ⟨_, List.mem_cons_of_mem _ (List.mem_of_getElem? hj), k5, rfl⟩) hw ?_⟩;have far : ∀ (i : Nat) (x : Value), (o :: cs)[i]? = some x → i ≠ j + 1 → ∀ b', D9 x b' → w'.heap[b']? = w.heap[b']? := fun i x hi hne b' hb' => by
      refine hw.block b' fun e => ?_;subst e;exact Ad4 g5 hi (show (o :: cs)[j + 1]? = some _ from hj) hne hb' ⟨k5, rfl⟩
     refine ⟨o, cs, e1, by simp [g2], g3.mono (fun _ _ x => x) (far 0 o rfl (by omega)), fun i c l hi hl => ?_, g5⟩;by_cases hij : i = j
     · subst hij;rw [hj] at hi; cases hi;rw [List.getElem?_set_self (by have := (List.getElem?_eq_some_iff.1 h1).1; exact this)] at hl; cases hl;exact Z1 hS h2 k1 hw
     · rw [List.getElem?_set_ne (Ne.symm hij)] at hl;exact (g4 i c l hi hl).mono (fun _ _ x => x) (far (i + 1) c hi (by omega))
   · exact h.elim
 | _ => exact h.elim
end Go.Proofs.Ytdikcfjpcgapaaa.Fw
namespace Go.Proofs.Ytdikcfjpcgapaaa.Fw
open Go.RowKit
variable {P : Program} {F : Fr} {N : Nat} {ρ : Nat → Value} {s : FS} {a : Act} {w w' : World} {K : KK} {V : View}
def Tells (P : Program) (V : View) (ρ : Nat → Value) (w : World) (m : Sem Value) (K : KK) : Prop := ∃ v x, m.run P w = .ok v w ∧ K x [] ∧ Conc V ρ x v
theorem Tells.mk {m : Sem Value} {v x} (h : m.run P w = .ok v w) (hk : K x []) (hc : Conc V ρ x v) : Tells P V ρ w m K := ⟨v, x, h, hk, hc⟩
theorem Bc {k n} : Conc V ρ (.pv (.i k n)) (.int k n) := by simp only [Conc]; exact .i k n
theorem Ce {x} : Conc V ρ (.pv (.b x)) (.bool x) := by simp only [Conc]; exact .b x
theorem Jq {l : List UInt8} : Conc V ρ (.pv (.s l)) (.string ⟨l.toArray⟩) := by simp only [Conc]; exact .s l
theorem B0 {k n v} (h : Conc V ρ (.pv (.i k n)) v) : v = .int k n := by simp only [Conc] at h; cases h; rfl
theorem Io {x v} (h : Conc V ρ (.pv (.b x)) v) : v = .bool x := by simp only [Conc] at h; cases h; rfl
theorem Hh {l v} (h : Conc V ρ (.pv (.s l)) v) : v = .string ⟨l.toArray⟩ := by simp only [Conc] at h; cases h; rfl
theorem I8 (l : List UInt8) : (ByteArray.mk l.toArray).toList = l := by rw [Lib.toList_data]
theorem Ye (x y : List UInt8) : (x == y) = decide (x = y) := by by_cases h : x = y <;> simp [h]
theorem Ef (l : List UInt8) : (ByteArray.mk l.toArray).size = l.length := by simp [ByteArray.size]
theorem Bd (op : BinOp) (t : TypeId) (ox oy : Operand) (u v : Value) (h : ∀ c, u ≠ .agg c) (hn : u ≠ .nilIface) : (eqGuard op t ox oy u v).run P w = .ok () w := by
 cases op <;> cases u <;> cases v <;> first | exact absurd rfl hn | exact absurd rfl (h _) | rfl
theorem Ab5 {op : BinOp} {t : TypeId} {k k' x y} (h : Hc op k k' x y K) : Tells P V ρ w (binOp op t (.int k x) (.int k' y)) K := by
 cases op <;> simp only [Hc] at h
 case add => obtain ⟨rfl, h⟩ := h; exact .mk (by simp [binOp, Op.intArith]) h Bc
 case sub => obtain ⟨rfl, h⟩ := h; exact .mk (by simp [binOp, Op.intArith]) h Bc
 case mul => obtain ⟨rfl, h⟩ := h; exact .mk (by simp [binOp, Op.intArith]) h Bc
 case quo => obtain ⟨rfl, h0, h⟩ := h; exact .mk (by simp [binOp, Op.intDiv, h0]) h Bc
 case rem => obtain ⟨rfl, h0, h⟩ := h; exact .mk (by simp [binOp, Op.intDiv, h0]) h Bc
 case and => obtain ⟨rfl, h⟩ := h; exact .mk (by simp [binOp, intBits_and]) h Bc
 case or => obtain ⟨rfl, h⟩ := h; exact .mk (by simp [binOp, intBits_or]) h Bc
 case xor => obtain ⟨rfl, h⟩ := h; exact .mk (by simp [binOp, intBits_xor]) h Bc
 case andNot => obtain ⟨rfl, h⟩ := h; exact .mk (by simp [binOp, intBits_andNot]) h Bc
 case shl => obtain ⟨h0, h⟩ := h; exact .mk (by simp [binOp, Op.shift, Int.not_lt.2 h0]) h Bc
 case shr => obtain ⟨h0, h⟩ := h; exact .mk (by simp [binOp, Op.shift, Int.not_lt.2 h0]) h Bc
 case eql => obtain ⟨rfl, h⟩ := h; exact .mk (v := .bool (decide (x = y))) (by simp [binOp, Op.intCmp]; rfl) h Ce
 case neq => obtain ⟨rfl, h⟩ := h; exact .mk (v := .bool (!decide (x = y))) (by simp [binOp, Op.intCmp, bne]; rfl) h Ce
 case lss => obtain ⟨rfl, h⟩ := h; exact .mk (by simp [binOp, Op.intCmp]) h Ce
 case leq => obtain ⟨rfl, h⟩ := h; exact .mk (by simp [binOp, Op.intCmp]) h Ce
 case gtr => obtain ⟨rfl, h⟩ := h; exact .mk (by simp [binOp, Op.intCmp]) h Ce
 case geq => obtain ⟨rfl, h⟩ := h; exact .mk (by simp [binOp, Op.intCmp]) h Ce
theorem Ab4 {op : BinOp} {t : TypeId} {x y : List UInt8} (h : Qw op x y K) : Tells P V ρ w (binOp op t (.string ⟨x.toArray⟩) (.string ⟨y.toArray⟩)) K := by
 cases op <;> simp only [Qw] at h
 case add =>
  obtain ⟨h0, h⟩ := h;refine .mk (v := .string ⟨(x ++ y).toArray⟩) ?_ h Jq;have : ¬ ((x.length : Int) + y.length > IntKind.i64.max) := by simp [IntKind.max, IntKind.signed, IntKind.bits]; omega
  simp only [binOp, Op.stringOp, Ef];rw [if_neg (by push_cast; exact this)];simp only [Sem.run_pure];congr 2
 all_goals (try exact h.elim)
 all_goals (refine .mk (by simp only [binOp, Op.stringOp, I8, Ye, Sem.run_pure]) h Ce)
theorem O3 {t : TypeId} {x y : Bool} (ht : P.underlying t = some .bool) (d : Nat) : (Op.equalIn (d + 1) t (.bool x) (.bool y)).run P w = .ok (decide (x = y)) w := by
 unfold Op.equalIn;rw [Aa (Fw.run_underlying ht w)];cases x <;> cases y <;> rfl
theorem Ab6 {op : BinOp} {t : TypeId} {x y : Bool} (ht : P.underlying t = some .bool) (h : binB op x y K) : Tells P V ρ w (binOp op t (.bool x) (.bool y)) K := by
 have he : (Op.equal t (.bool x) (.bool y)).run P w = .ok (decide (x = y)) w := O3 ht 9999;cases op <;> simp only [binB] at h <;> (try exact h.elim)
 case eql => exact .mk (v := .bool (decide (x = y))) (by simp only [binOp]; rw [Aa he]; rfl) h Ce
 case neq => exact .mk (v := .bool (!decide (x = y))) (by simp only [binOp]; rw [Aa he]; rfl) h Ce
theorem Yb {op : BinOp} {t : TypeId} {x y : SV} {v u : Value} (hx : Conc V ρ x v) (hy : Conc V ρ y u) (h : Gp op x y K) (ox oy : Operand) :
 Tells P V ρ w (do eqGuard op t ox oy v u; binOp op t v u) K := by
 unfold Gp at h;split at h
 · cases B0 hx; cases B0 hy;obtain ⟨r, z, h1, h2⟩ := Ab5 (P := P) (V := V) (ρ := ρ) (w := w) (t := t) h;exact ⟨r, z, by rw [Aa (Bd _ _ _ _ _ _ (by simp) (by simp))]; exact h1, h2⟩
 · cases Hh hx; cases Hh hy;obtain ⟨r, z, h1, h2⟩ := Ab4 (P := P) (V := V) (ρ := ρ) (w := w) (t := t) h;exact ⟨r, z, by rw [Aa (Bd _ _ _ _ _ _ (by simp) (by simp))]; exact h1, h2⟩
 · exact h.elim
theorem Yc {op : BinOp} {t : TypeId} {x y : Bool} {v u : Value} (ht : P.underlying t = some .bool) (hx : Conc V ρ (.pv (.b x)) v) (hy : Conc V ρ (.pv (.b y)) u) (h : binB op x y K) (ox oy : Operand) :
 Tells P V ρ w (do eqGuard op t ox oy v u; binOp op t v u) K := by
 cases Io hx; cases Io hy;obtain ⟨r, z, h1, h2⟩ := Ab6 (P := P) (V := V) (ρ := ρ) (w := w) ht h;exact ⟨r, z, by rw [Aa (Bd _ _ _ _ _ _ (by simp) (by simp))]; exact h1, h2⟩
theorem Agi {op : UnOp} {x : SV} {v : Value} (hx : Conc V ρ x v) (h : K9 op x K) : Tells P V ρ w (Op.unary op v) K := by
 unfold K9 at h;split at h
 · cases Io hx; split at h
   · exact .mk rfl h Ce
   · exact h.elim
 · cases B0 hx; split at h
   · exact .mk (by simp [Op.unary, Op.intArith]) h Bc
   · exact h.elim
 · exact h.elim
theorem Ahd {x y : SV} {v u : Value} {ts t} (hx : Conc V ρ x v) (hy : Conc V ρ y u) (h : Hf true x y K) : Tells P V ρ w (Builtin.max_ ts t #[v, u]) K := by
 unfold Hf at h;split at h
 · cases B0 hx; cases B0 hy;obtain ⟨rfl, h⟩ := h;rename_i k a b;refine .mk (v := .int k (max a b)) ?_ h Bc;have : (if b > a then b else a) = max a b := by simp only [Int.max_def]; split <;> split <;> omega
   simp [Builtin.max_, Builtin.max2, this]
 · exact h.elim
theorem Ahe {x y : SV} {v u : Value} {ts t} (hx : Conc V ρ x v) (hy : Conc V ρ y u) (h : Hf false x y K) : Tells P V ρ w (Builtin.min_ ts t #[v, u]) K := by
 unfold Hf at h;split at h
 · cases B0 hx; cases B0 hy;obtain ⟨rfl, h⟩ := h;rename_i k a b;refine .mk (v := .int k (min a b)) ?_ h Bc;have : (if b < a then b else a) = min a b := by simp only [Int.min_def]; split <;> split <;> omega
   simp [Builtin.min_, Builtin.min2, this]
 · exact h.elim
end Go.Proofs.Ytdikcfjpcgapaaa.Fw
namespace Go.Proofs.Ytdikcfjpcgapaaa.Fw
open Go.RowKit
variable {P : Program} {F : Fr} {N : Nat} {ρ : Nat → Value} {s : FS} {a : Act} {w w' : World} {K : KK} {V : View}
theorem Dh {k n} : (asIntOf (.int k n)).run P w = .ok (k, n) w := rfl
theorem Ah0 {t : TypeId} {f : Nat} {fs : Array Field} {fd : Field} {x : SV} {v : Value} (ht : P.underlying t = some (.struct fs)) (hf : fs[f]? = some fd) (hz : (Ac P fd.type).getD 0 ≠ 0)
 (hx : Conc V ρ x v) (h : Ka fd.offset x K) : Tells P V ρ w (Instr.fieldAt t v f) K := by
 have hzz : Ac P fd.type = some ((Ac P fd.type).getD 0) := by cases h : Ac P fd.type <;> simp_all
 have run : ∀ b off, (Instr.fieldAt t (.pointer (some ⟨b, off, none⟩)) f).run P w = .ok (.pointer (some ⟨b, off + fd.offset, none⟩)) w := fun b off => by
  unfold Instr.fieldAt;rw [Aa (Fw.run_underlying ht w)];simp only [hf];rw [Aa H5];unfold fieldPlace;have : (do if (← sizeOf fd.type) = 0 then partAt ⟨b, off, none⟩ fd.offset fd.byteOffset else pure (Addr.add ⟨b, off, none⟩ fd.offset) : Sem Addr).run P w = .ok ⟨b, off + fd.offset, none⟩ w := by
   rw [Aa (Ay hzz w), if_neg hz, Bb]; rfl
  rw [Aa this]; rfl
 cases x <;> simp only [Ka] at h <;> (try exact h.elim) <;> simp only [Conc] at hx
 case p n o => obtain ⟨b, e, rfl⟩ := hx; exact .mk (run _ _) h (by simp only [Conc]; exact ⟨b, e, rfl⟩)
 case ps n o => obtain ⟨b, e, rfl⟩ := hx; exact .mk (run _ _) h (by simp only [Conc]; exact ⟨b, e, rfl⟩)
 case pr n z i o => obtain ⟨b, l, c, e, rfl⟩ := hx; exact .mk (run _ _) h (by simp only [Conc]; exact ⟨b, l, c, e, by rw [Nat.add_assoc]⟩)
 case pi z es i o => obtain ⟨b, q, arr, rfl, e⟩ := hx; exact .mk (run _ _) h (by simp only [Conc]; exact ⟨b, q, arr, by rw [Nat.add_assoc, Nat.add_assoc], e⟩)
theorem Dv {t e : TypeId} {n size : Nat} {k : IntKind} {j : Int} {b off : Nat} (ht : P.underlying t = some (.array n e)) (hz : Ac P e = some size) (h0 : 0 ≤ j) (h1 : j < n) :
 (Instr.indexAt t (.pointer (some ⟨b, off, none⟩)) (.int k j)).run P w = .ok (.pointer (some ⟨b, off + j.toNat * size, none⟩)) w := by
 unfold Instr.indexAt;rw [Aa Dh];simp only [bind_assoc];rw [Aa (Fw.run_underlying ht w)];simp only [bind_assoc];rw [Aa H5];simp only [pure_bind];rw [Aa (Fw.run_underlying ht w)];simp only [h0, h1, and_self, if_true];rw [Aa (Ay hz w), Bb]; rfl
theorem Rx {t e : TypeId} {n size : Nat} {k : IntKind} {j : Int} {x : SV} {v : Value} (ht : P.underlying t = some (.array n e)) (hz : Ac P e = some size) (h0 : 0 ≤ j) (h1 : j < n)
 (hx : Conc V ρ x v) (h : Ka (j.toNat * size) x K) : Tells P V ρ w (Instr.indexAt t v (.int k j)) K := by
 cases x <;> simp only [Ka] at h <;> (try exact h.elim) <;> simp only [Conc] at hx
 case p n o => obtain ⟨b, e, rfl⟩ := hx; exact .mk (Dv ht hz h0 h1) h (by simp only [Conc]; exact ⟨b, e, rfl⟩)
 case ps n o => obtain ⟨b, e, rfl⟩ := hx; exact .mk (Dv ht hz h0 h1) h (by simp only [Conc]; exact ⟨b, e, rfl⟩)
 case pr n z i o => obtain ⟨b, l, c, e, rfl⟩ := hx; exact .mk (Dv ht hz h0 h1) h (by simp only [Conc]; exact ⟨b, l, c, e, by rw [Nat.add_assoc]⟩)
 case pi z es i o => obtain ⟨b, q, arr, rfl, e⟩ := hx; exact .mk (Dv ht hz h0 h1) h (by simp only [Conc]; exact ⟨b, q, arr, by rw [Nat.add_assoc, Nat.add_assoc], e⟩)
theorem Gb {t e : TypeId} {size : Nat} {k : IntKind} {j : Int} {b off len cap : Nat} (ht : P.underlying t = some (.slice e)) (hz : Ac P e = some size) (h0 : 0 ≤ j) (h1 : j < len) :
 (Instr.indexAt t (.slice (some ⟨b, off, none⟩) len cap) (.int k j)).run P w = .ok (.pointer (some ⟨b, off + j.toNat * size, none⟩)) w := by
 unfold Instr.indexAt;rw [Aa Dh];simp only [bind_assoc];rw [Aa (Fw.run_underlying ht w)];simp only [pure_bind];rw [Aa (Fw.run_underlying ht w)];simp only [h0, h1, and_self, if_true];rw [Aa (Ay hz w), Bb]; rfl
theorem Fh {full : Bool} {sz : Nat} {es : List (List PV)} {v : Value} (h : PConc V (.sl full sz es) v) {i : Nat} (hi : i < es.length) :
 ∃ b off cap arr, v = .slice (some ⟨b, off, none⟩) es.length cap ∧ V b = some arr ∧ ∀ c, es[i]? = some c → c.length = sz ∧ PCells V c ((arr.toList.drop (off + i * sz)).take sz) := by
 cases h with
 | sl _ _ _ a cap cs bl off arr hcap hfull hsz ha hcs hel =>
   have hne : es ≠ [] := by intro e; subst e; simp at hi
   obtain ⟨rfl, hV⟩ := ha hne;refine ⟨bl, off, cap, arr, rfl, hV, fun c hc => ?_⟩;have hl := hsz c (List.mem_of_getElem? hc);have hget : ∀ j, j < sz → (arr.toList.drop (off + i * sz))[j]? = some (cs i j) := fun j hj => by
    rw [List.getElem?_drop, Array.getElem?_toList, Nat.add_assoc]; exact hcs i j hi hj
   refine ⟨hl, ?_, fun j x hj => ?_⟩
   · rw [hl];simp only [List.length_take];have : sz ≤ (arr.toList.drop (off + i * sz)).length := by
      rcases Nat.eq_zero_or_pos sz with h0 | h0
      · omega
      · have := (List.getElem?_eq_some_iff.1 (hget (sz - 1) (by omega))).1; omega
     omega
   · have hlt : j < sz := by have := (List.getElem?_eq_some_iff.1 hj).1; omega
     exact ⟨cs i j, by rw [List.getElem?_take, if_pos hlt]; exact hget j hlt, hel i j c x hc hj⟩
theorem Aey {t e : TypeId} {size : Nat} {k : IntKind} {j : Int} {x : SV} {v : Value} (hR : RelR F N ρ s a w) (ht : P.underlying t = some (.slice e)) (hz : Ac P e = some size)
 (hx : Conc (vw F w ρ s) ρ x v) (h : Es s.h size j x K) : Tells P (vw F w ρ s) ρ w (Instr.indexAt t v (.int k j)) K := by
 unfold Es at h;split at h
 · rename_i full sz es;obtain ⟨h0, h1, rfl, h⟩ := h;simp only [Conc] at hx;have hi : j.toNat < es.length := by omega
   obtain ⟨b, off, cap, arr, rfl, hV, hel⟩ := Fh hx hi;refine .mk (Gb ht hz h0 h1) h ?_;simp only [Conc];exact ⟨b, off, arr, by simp, hV, fun c hc => hel c hc⟩
 · rename_i n;unfold Jm at h;split at h
   · rename_i sz es hn;obtain ⟨h0, h1, rfl, h⟩ := h;simp only [Conc] at hx;obtain ⟨hx, _⟩ := hx;have hi : j.toNat < es.length := by omega
     obtain ⟨b, len, cap, vs, ty, fr, e1, _, _, _, _, _, _, _, _, rfl, _⟩ := E1 (hR.own n _ hn) hi;rw [hx, e1];refine .mk (Gb ht hz h0 h1) h ?_;simp only [Conc];exact ⟨b, _, cap, e1, by simp⟩
   · exact h.elim
 · rename_i n i;unfold Ug at h;split at h
   · rename_i k0 hk;obtain ⟨h0, h1, rfl, h⟩ := h;obtain ⟨rows, hs, rfl⟩ := P3 hR hk hx;obtain ⟨b, cap, rfl⟩ := Vz hs (by omega);simp only [Conc] at hx;obtain ⟨l, e1, e2, _⟩ := hx;refine .mk (Gb ht hz h0 h1) h ?_;simp only [Conc];exact ⟨l, b, _, cap, e1, e2, by simp⟩
   · exact h.elim
 · exact h.elim
theorem Li {t : TypeId} {size off : Nat} {ag : Bool} {vs : List Value} {y : SV} (hz : Ac P t = some size) (hag : Cc P t = some ag) (hp : Q4 V ρ ag ((vs.drop off).take size) y) :
 ∃ v, (part t ⟨vs⟩ off).run P w = .ok v w ∧ Conc V ρ y v := by
 unfold part;cases ag with
 | true =>
   simp only [Q4, if_true] at hp;refine ⟨_, ?_, hp⟩;rw [Aa (E0 hag w)];simp only [if_true];rw [Aa (Ay hz w)];simp only [Sem.run_pure];congr 2;apply Array.ext';simp [List.drop_take]
 | false =>
   simp only [Q4, Bool.false_eq_true, if_false] at hp;obtain ⟨v, e, hc⟩ := hp;refine ⟨v, ?_, hc⟩;rw [Aa (E0 hag w)];have := Pl e;simp only [Bool.false_eq_true, if_false];rw [show (Array.mk vs)[off]? = some v from by simpa using this]; rfl
theorem Gt {x : SV} {v : Value} (h : x.isAg = true) (hx : Conc V ρ x v) : ∃ vs, v = .agg ⟨vs⟩ ∧ vs = Ag v ∧ vs.length = x.width ∧ ∀ c ∈ vs, Al c := by
 cases x <;> simp [SV.isAg] at h
 case vec n cs => simp only [Conc] at hx; obtain ⟨vs, rfl, h1, h2⟩ := hx; exact ⟨vs, rfl, rfl, h1, h2.one⟩
 case agg l => simp only [Conc] at hx; obtain ⟨vs, rfl, h1⟩ := hx; exact ⟨vs, rfl, rfl, h1.facts.1, h1.facts.2⟩
theorem Ae4 {t : TypeId} {f : Nat} {fs : Array Field} {fd : Field} {size : Nat} {ag : Bool} {x : SV} {v : Value} (ht : P.underlying t = some (.struct fs)) (hf : fs[f]? = some fd)
 (hpos : 0 < size) (hz : Ac P fd.type = some size) (hag : Cc P fd.type = some ag) (hx : Conc V ρ x v) (hxa : x.isAg = true) (h : Hg x fd.offset size ag K) : Tells P V ρ w (Instr.field t v f) K := by
 obtain ⟨vs, rfl, h1, h2, h3⟩ := Gt hxa hx;obtain ⟨y, _, hK, hp⟩ := Jj hpos hx h1 h2 h3 h;obtain ⟨v', hr, hc⟩ := Li (P := P) (w := w) hz hag hp;refine .mk ?_ hK hc;unfold Instr.field;rw [Aa (Fw.run_underlying ht w)];simp only [hf];rw [Aa (x := ⟨vs⟩) (w' := w) rfl]; exact hr
theorem Ib {t e : TypeId} {n size : Nat} {k : IntKind} {j : Int} {vs : List Value} {v : Value} (ht : P.underlying t = some (.array n e)) (hz : Ac P e = some size) (h0 : 0 ≤ j) (h1 : j < n)
 (hp : (part e ⟨vs⟩ (j.toNat * size)).run P w = .ok v w) : (Instr.index t (.agg ⟨vs⟩) (.int k j)).run P w = .ok v w := by
 unfold Instr.index;rw [Aa Dh, Aa (Fw.run_underlying ht w)];simp only [h0, h1, and_self, if_true];rw [Aa (Ay hz w)]; exact hp
theorem Abm {t e : TypeId} {n size : Nat} {k : IntKind} {j : Int} {ag : Bool} {x : SV} {v : Value} (ht : P.underlying t = some (.array n e)) (hpos : 0 < size) (hz : Ac P e = some size) (hag : Cc P e = some ag)
 (h0 : 0 ≤ j) (h1 : j < n) (hx : Conc V ρ x v) (hxa : x.isAg = true) (h : Hg x (j.toNat * size) size ag K) : Tells P V ρ w (Instr.index t v (.int k j)) K := by
 obtain ⟨vs, rfl, g1, g2, g3⟩ := Gt hxa hx;obtain ⟨y, _, hK, hp⟩ := Jj hpos hx g1 g2 g3 h;obtain ⟨v', hr, hc⟩ := Li (P := P) (w := w) hz hag hp;exact .mk (Ib ht hz h0 h1 hr) hK hc
theorem Aes {t e : TypeId} {n size : Nat} {k : IntKind} {j : Int} {ag : Bool} {x : SV} {v : Value} (ht : P.underlying t = some (.array n e)) (hpos : 0 < size) (hz : Ac P e = some size) (hag : Cc P e = some ag)
 (h0 : 0 ≤ j) (h1 : j < n) (hx : Conc V ρ x v) (hxa : x.isAg = true) (h : LoadK x.cells? (j.toNat * size) size ag K) : Tells P V ρ w (Instr.index t v (.int k j)) K := by
 obtain ⟨vs, rfl, g1, g2, g3⟩ := Gt hxa hx;obtain ⟨y, _, hK, hp⟩ := Ji (ρ := ρ) (o := 0) (vs := vs) hpos (fun cs e => by
  have := hx.cells e;rw [← g1] at this;simp only [List.drop_zero]; rw [List.take_of_length_le (by simp [this.1])]; exact this) h
 simp only [Nat.zero_add] at hp;obtain ⟨v', hr, hc⟩ := Li (P := P) (w := w) hz hag hp;exact .mk (Ib ht hz h0 h1 hr) hK hc
theorem Aer {t : TypeId} {k : IntKind} {j : Int} {l : List UInt8} (ht : P.underlying t = some .string) (h0 : 0 ≤ j) (h1 : j < l.length) (h : K (.pv (.i .u8 (l.getD j.toNat 0).toNat)) []) :
 Tells P V ρ w (Instr.index t (.string ⟨l.toArray⟩) (.int k j)) K := by
 refine .mk ?_ h Bc;unfold Instr.index;rw [Aa Dh, Aa (Fw.run_underlying ht w)];have hlt : j.toNat < l.length := by omega
 have hlt' : j.toNat < (ByteArray.mk l.toArray).size := by rw [Ef]; exact hlt
 have : (if 0 ≤ j then (ByteArray.mk l.toArray)[j.toNat]? else none) = some (l.getD j.toNat 0) := by

  rw [if_pos h0, getElem?_pos (ByteArray.mk l.toArray) j.toNat hlt'];simp only [List.getD_eq_getElem?_getD, List.getElem?_eq_getElem hlt, Option.getD_some];rfl
 simp only [this]; rfl
theorem P1 : ∀ {l : List SV} {vs : List Value} {k : Nat} {x : SV}, ConcL V ρ l vs → nth l k = some x → ∃ v, vs[k]? = some v ∧ Conc V ρ x v
 | [], _, _, _, _, h => by simp [nth] at h
 | y :: l, vs, k, x, hc, h => by
   simp only [ConcL] at hc;obtain ⟨u, us, rfl, h1, h2⟩ := hc;simp only [nth] at h;split at h
   · rename_i e; subst e; cases h; exact ⟨u, rfl, h1⟩
   · rename_i e;obtain ⟨v, g1, g2⟩ := P1 h2 h;refine ⟨v, ?_, g2⟩;obtain ⟨k, rfl⟩ : ∃ m, k = m + 1 := ⟨k - 1, by omega⟩
     simpa using g1
theorem Ae9 {k : Nat} {l : List SV} {v : Value} (hx : Conc V ρ (.tup l) v) (h : R2 (nth l k) K) : Tells P V ρ w (Instr.extract v k) K := by
 simp only [Conc] at hx;obtain ⟨vs, rfl, hc⟩ := hx;unfold R2 at h;split at h
 · rename_i x hn;obtain ⟨v, g1, g2⟩ := P1 hc hn;refine .mk ?_ h g2;unfold Instr.extract;simp only [show (Array.mk vs)[k]? = some v from by simpa using g1]; rfl
 · exact h.elim
theorem Aak {c x y : SV} {vc vx vy : Value} (hc : Conc V ρ c vc) (hx : Conc V ρ x vx) (hy : Conc V ρ y vy) (h : Eh c x y K) :
 ∃ v z, (do pure (Next.value (if ← asBool vc then vx else vy)) : Sem Next).run P w = .ok (.value v) w ∧ K z [] ∧ Conc V ρ z v := by
 unfold Eh at h;split at h
 · cases Io hc; exact ⟨vx, _, rfl, h, hx⟩
 · cases Io hc; exact ⟨vy, _, rfl, h, hy⟩
 · exact h.elim
theorem Aap {x : SV} {v : Value} (hx : Conc V ρ x v) (h : Ah 0 s.h .nilc [x] K) : ∃ r, (execOp (fun _ => v) ⟨none, .nilCheck (.tmp 0), 0, "", #[], none⟩ : Sem Next).run P w = .ok (.value v) w ∧ r = v ∧ K x [] := by
 cases x <;> simp only [Ah] at h <;> (try exact h.elim) <;> simp only [Conc] at hx
 case p n o => obtain ⟨b, e, rfl⟩ := hx; exact ⟨_, rfl, rfl, h⟩
 case ps n o => obtain ⟨b, e, rfl⟩ := hx; exact ⟨_, rfl, rfl, h⟩
 case pr n z i o => obtain ⟨b, l, c, e, rfl⟩ := hx; exact ⟨_, rfl, rfl, h⟩
 case pi z es i o => obtain ⟨b, q, arr, rfl, e⟩ := hx; exact ⟨_, rfl, rfl, h⟩
 case fn f l => obtain ⟨vs, rfl, _⟩ := hx; cases f <;> exact ⟨_, rfl, rfl, h⟩
end Go.Proofs.Ytdikcfjpcgapaaa.Fw
