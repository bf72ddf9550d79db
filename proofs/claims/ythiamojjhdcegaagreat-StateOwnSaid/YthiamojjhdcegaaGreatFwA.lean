/- A small language for code of the model, what its operations mean, and how code is brought into it. -/
import Derived.Orders
import Derived.Laws.Entries
import GoSem.Core.Layout
import Derived.Below
import GoSem.Dispatch
import Derived.Laws.BytesArg
import Derived.Lib.ConvBytes
import Derived.Lib.Strings
import Derived.Laws.Sem
import Derived.ChangeKeysEq
import Derived.Laws.MakeOwn
import Derived.Laws.AppendOwn
import Derived.Lib.AppendZerosOnto
import Derived.Laws.RangeString
import Derived.Lib.OthersKept
import Derived.Attr
set_option linter.unusedVariables false
set_option linter.unusedSimpArgs false
set_option linter.unusedSectionVars false
namespace Go.Proofs.YthiamojjhdcegaaGreat.Fw
inductive Ty where
 | int (k : IntKind) | bool | str | arr (n : Nat) (e : Ty) | st (fs : List Ty)
 deriving Inhabited
inductive PV where
 | i (k : IntKind) (n : Int)
 | b (x : Bool)
 | s (l : List UInt8)
 | v (x : Value)
 | sl (full : Bool) (sz : Nat) (es : List (List PV))
 | fs (sz : Nat) (es : List (List PV))
 deriving Inhabited
inductive SV where
 | pv (x : PV)
 | vec (n : Nat) (cs : List PV)
 | agg (l : List SV)
 | tup (l : List SV)
 | p (n off : Nat)
 | ps (n e : Nat)
 | pr (n sz i off : Nat)
 | pi (sz : Nat) (es : List (List PV)) (i off : Nat)
 | os (n : Nat)
 | ov (n sz lo hi : Nat)
 | fn (f : Fn) (cap : List SV)
 | dead
 deriving Inhabited
inductive Blk where
 | var (x : SV)
 | row (sz : Nat) (es : List (List PV))
 | rowc (sz : Nat) (es : List (List PV)) (c : Nat)
 | it (l : List UInt8) (pos : Nat)
 deriving Inhabited
inductive HU where
 | new (n : Nat) (b : Blk)
 | upd (n : Nat) (b : Blk)
 | del (n : Nat)
 | frz (n : Nat) (x : PV)
 | set (t : Nat → SV) (h : Nat → Option Blk)
def lk {α : Type} (d : α) (k : Nat) : List (Nat × α) → α
 | [] => d
 | (j, x) :: l => if k = j then x else lk d k l
mutual
def SV.kill (n : Nat) : SV → SV
 | .p m o => if n = m then .dead else .p m o
 | .ps m o => if n = m then .dead else .ps m o
 | .pr m s i o => if n = m then .dead else .pr m s i o
 | .os m => if n = m then .dead else .os m
 | .ov m z a b => if n = m then .dead else .ov m z a b
 | .agg l => .agg (SV.killL n l)
 | .tup l => .tup (SV.killL n l)
 | .fn f l => .fn f (SV.killL n l)
 | x => x
def SV.killL (n : Nat) : List SV → List SV
 | [] => []
 | x :: l => SV.kill n x :: SV.killL n l
end
mutual
def SV.frz (n : Nat) (v : PV) : SV → SV
 | .os m => if n = m then .pv v else .os m
 | .agg l => .agg (SV.frzL n v l)
 | .tup l => .tup (SV.frzL n v l)
 | .fn f l => .fn f (SV.frzL n v l)
 | x => x
def SV.frzL (n : Nat) (v : PV) : List SV → List SV
 | [] => []
 | x :: l => SV.frz n v x :: SV.frzL n v l
end
def Blk.frz (n : Nat) (v : PV) : Blk → Blk
 | .var x => .var (x.frz n v)
 | b => b
def Blk.kill (n : Nat) : Blk → Blk
 | .var x => .var (x.kill n)
 | b => b
structure FS where
 t : Nat → SV
 h : Nat → Option Blk
def mk (t : List (Nat × SV)) (h : List (Nat × Option Blk)) : FS := ⟨fun n => lk .dead n t, fun n => lk none n h⟩
def Nu (n : Nat) : List (Nat × SV) → List (Nat × SV)
 | [] => []
 | (j, x) :: l => (j, x.kill n) :: Nu n l
def Yz (n : Nat) (v : PV) : List (Nat × SV) → List (Nat × SV)
 | [] => []
 | (j, x) :: l => (j, x.frz n v) :: Yz n v l
def Mn (n : Nat) (v : PV) : List (Nat × Option Blk) → List (Nat × Option Blk)
 | [] => []
 | (j, some x) :: l => (if j = n then (j, none) else (j, some (x.frz n v))) :: Mn n v l
 | (j, none) :: l => (j, none) :: Mn n v l
def Jy (n : Nat) : List (Nat × Option Blk) → List (Nat × Option Blk)
 | [] => []
 | (j, some x) :: l => (j, some (x.kill n)) :: Jy n l
 | (j, none) :: l => (j, none) :: Jy n l
def Gg : Nat := 1000000
inductive Opd where
 | t (n : Nat)
 | c (x : SV)
def FS.ev (s : FS) : Opd → SV
 | .t n => s.t n
 | .c x => x
def FS.set (s : FS) (d : Nat) (x : SV) : FS := ⟨fun n => if n = d then x else s.t n, s.h⟩
def FS.seth (s : FS) (m : Nat) (b : Option Blk) : FS := ⟨s.t, fun n => if n = m then b else s.h n⟩
def FS.kill (s : FS) (m : Nat) : FS := ⟨fun n => (s.t n).kill m, fun n => (s.h n).map (Blk.kill m)⟩
def FS.frz (s : FS) (n : Nat) (v : PV) : FS := ⟨fun m => (s.t m).frz n v, fun m => if m = n then none else (s.h m).map (Blk.frz n v)⟩
def FS.hup (s : FS) : List HU → FS
 | [] => s
 | .new n b :: u => ((s.kill n).seth n (some b)).hup u
 | .upd n b :: u => (s.seth n (some b)).hup u
 | .del n :: u => (s.seth n none).hup u
 | .frz n v :: u => (s.frz n v).hup u
 | .set t h :: u => FS.hup ⟨t, h⟩ u
def FS.apply (s : FS) (d : Option Nat) (x : SV) (u : List HU) : FS :=
 match d with
 | some d => (s.hup u).set d x
 | none => s.hup u
theorem Aq8 (t h d x) : (mk t h).set d x = mk ((d, x) :: t) h := by
 simp only [FS.set, mk, lk]
theorem Aj6 (t h d x) : (mk t h).seth d x = mk t ((d, x) :: h) := by
 simp only [FS.seth, mk, lk]
theorem Ae7 (m n) : ∀ t : List (Nat × SV), lk .dead n (Nu m t) = (lk .dead n t).kill m
 | [] => by simp [Nu, lk, SV.kill]
 | (j, x) :: l => by
   simp only [Nu, lk, Ae7 m n l];split <;> rfl
theorem Xi (m n) : ∀ t : List (Nat × Option Blk), lk none n (Jy m t) = (lk none n t).map (Blk.kill m)
 | [] => by simp [Jy, lk]
 | (j, some x) :: l => by
   simp only [Jy, lk, Xi m n l];split <;> rfl
 | (j, none) :: l => by
   simp only [Jy, lk, Xi m n l];split <;> rfl
theorem Ak1 (m v n) : ∀ t : List (Nat × SV), lk .dead n (Yz m v t) = (lk .dead n t).frz m v
 | [] => by simp [Yz, lk, SV.frz]
 | (j, x) :: l => by
   simp only [Yz, lk, Ak1 m v n l];split <;> rfl
theorem Rd (m v n) : ∀ t : List (Nat × Option Blk), lk none n (Mn m v t) = if n = m then none else (lk none n t).map (Blk.frz m v)
 | [] => by simp [Mn, lk]
 | (j, some x) :: l => by
   by_cases hj : j = m
   · by_cases hn : n = j
     · subst hj; subst hn; simp [Mn, lk]
     · subst hj; simp [Mn, lk, hn, Rd j v n l]
   · by_cases hn : n = j
     · subst hn; simp [Mn, lk, hj]
     · simp [Mn, lk, hj, hn, Rd m v n l]
 | (j, none) :: l => by
   simp only [Mn, lk, Rd m v n l];split <;> simp
theorem Aij (t h m v) : (mk t h).frz m v = mk (Yz m v t) (Mn m v h) := by
 simp only [FS.frz, mk, Ak1, Rd]
theorem Acf (t h m) : (mk t h).kill m = mk (Nu m t) (Jy m h) := by
 simp only [FS.kill, mk, Ae7, Xi]
end Go.Proofs.YthiamojjhdcegaaGreat.Fw
namespace Go.Proofs.YthiamojjhdcegaaGreat.Fw
inductive K1 where
 | int (k : IntKind) | bool | str | other
 deriving DecidableEq
def PV.kind : PV → K1
 | .i k _ => .int k
 | .b _ => .bool
 | .s _ => .str
 | _ => .other
def Ef (ks : List K1) (cs : List PV) : Prop := cs.map PV.kind = ks
open Classical in
noncomputable def Yl (a b : List PV) : Bool := decide (a = b)
def Pf (a b : Option (List PV)) : Option (List PV) := match a, b with
 | some a, some b => some (a ++ b)
 | _, _ => none
mutual
def SV.cells? : SV → Option (List PV)
 | .pv x => some [x]
 | .vec _ cs => some cs
 | .agg l => SV.cellsL? l
 | _ => none
def SV.cellsL? : List SV → Option (List PV)
 | [] => some []
 | x :: l => Pf (SV.cells? x) (SV.cellsL? l)
end
mutual
def SV.width : SV → Nat
 | .vec n _ => n
 | .agg l => SV.widthL l
 | _ => 1
def SV.widthL : List SV → Nat
 | [] => 0
 | x :: l => SV.width x + SV.widthL l
end
def SV.isAg : SV → Bool
 | .vec _ _ => true
 | .agg _ => true
 | _ => false
def nth : List SV → Nat → Option SV
 | [], _ => none
 | x :: l, k => if k = 0 then some x else nth l (k - 1)
def SV.segs : SV → List SV
 | .agg l => l
 | x => [x]
def Jk : List SV → List Nat
 | [] => []
 | x :: l => x.width :: Jk l
def Y4 (sz : Nat) : List SV → Prop
 | [] => True
 | x :: l => x.width = sz ∧ Y4 sz l
def M1 : List SV → List SV
 | [] => []
 | x :: l => x.segs ++ M1 l
def cut : List SV → Nat → Nat → Option (List SV)
 | [], off, size => if off = 0 ∧ size = 0 then some [] else none
 | x :: l, off, size =>
   if off = 0 then
    if size = 0 then some []
    else if x.width ≤ size then (cut l 0 (size - x.width)).map (x :: ·) else none
   else if x.width ≤ off then cut l (off - x.width) size else none
def spl : List SV → Nat → Nat → List SV → Option (List SV)
 | [], off, size, ys => if off = 0 ∧ size = 0 then some ys else none
 | x :: l, off, size, ys =>
   if off = 0 then
    if size = 0 then some (ys ++ x :: l)
    else if x.width ≤ size then spl l 0 (size - x.width) ys else none
   else if x.width ≤ off then (spl l (off - x.width) size ys).map (x :: ·) else none
def Xc (ag : Bool) : List SV → Option SV
 | [.vec n cs] => if ag then some (.vec n cs) else none
 | [.agg l] => if ag then some (.agg [.agg l]) else none
 | [x] => if ag then some (.agg [x]) else some x
 | l => if ag then some (.agg l) else none
mutual
def SV.ok : SV → Prop
 | .pv _ => True
 | .vec m cs => cs.length = m
 | .agg l => SV.okL l
 | _ => False
def SV.okL : List SV → Prop
 | [] => True
 | x :: l => x.ok ∧ SV.okL l
end
mutual
def SV.flatB : SV → Bool
 | .dead => false
 | .tup _ => false
 | .agg l => SV.flatBL l
 | _ => true
def SV.flatBL : List SV → Bool
 | [] => true
 | x :: l => x.flatB && SV.flatBL l
end
def SV.form (ag : Bool) (n : Nat) : SV → Prop
 | .pv _ => ag = false ∧ n = 1
 | .vec m _ => ag = true ∧ m = n
 | .agg l => ag = true ∧ SV.widthL l = n ∧ SV.okL l
 | _ => False
def splice (cs : List PV) (off : Nat) (ys : List PV) : List PV := cs.take off ++ ys ++ cs.drop (off + ys.length)
abbrev KK := SV → List HU → Prop
def Hm (cs : List PV) (off size : Nat) (ag : Bool) : SV := match ag with
 | true => .vec size ((cs.drop off).take size)
 | false => .pv (cs.getD off (.b false))
def LoadK (c : Option (List PV)) (off size : Nat) (ag : Bool) (K : KK) : Prop := match c with
 | some cs => off + size ≤ cs.length ∧ (ag = true ∨ size = 1) ∧ K (Hm cs off size ag) []
 | none => False
theorem LoadK.old {c : Option (List PV)} {off size : Nat} {ag : Bool} {K : KK} (h : LoadK c off size ag K) :
 ∃ x cs, c = some cs ∧ off + size ≤ cs.length ∧ x.cells? = some ((cs.drop off).take size) ∧ x.form ag size ∧ K x [] := by
 cases c with
 | none => exact h.elim
 | some cs =>
   obtain ⟨h1, h2, h3⟩ := h;refine ⟨Hm cs off size ag, cs, rfl, h1, ?_, ?_, h3⟩
   · cases ag with
     | true => simp [Hm, SV.cells?]
     | false =>
       have h4 : size = 1 := by simpa using h2
       subst h4;have hlt : off < cs.length := by omega
       have h5 : (cs.drop off).take 1 = [cs[off]] := by rw [List.drop_eq_getElem_cons hlt]; rfl
       rw [h5];simp [Hm, SV.cells?, List.getD_eq_getElem?_getD, hlt]
   · cases ag with
     | true => simp [Hm, SV.form]
     | false =>
       have h4 : size = 1 := by simpa using h2
       simp [Hm, SV.form, h4]
def A7 (l : List UInt8) : List (List PV) := l.map fun c => [.i .u8 c.toNat]
def Yk (es : List (List PV)) (K : KK) : Prop := ∃ l, es = A7 l ∧ K (.pv (.s l)) []
inductive Kd where
 | mv | pick
 | new (z : SV) | box
 | bld (ns : List Nat) | bldV (n sz : Nat) | bsl (sz : Nat)
 | ld (size : Nat) (ag : Bool) | sto (size : Nat)
 | bin (op : BinOp) | binB (op : BinOp) | eqv (neg : Bool) (ks : List K1) | un (op : UnOp)
 | cvI (k : IntKind) | cvS | s2b | s2bD | b2s | b2b
 | mks (zero : List PV) (bytes : Nat)
 | slc (sz : Nat) (lo hi mx : Bool) | sls (lo hi : Bool)
 | fa (off : Nat) | iaS (sz : Nat) | iaA (len stride : Nat) | iaC (off : Nat)
 | fld (off size : Nat) (ag : Bool) | ixA (len stride : Nat) (ag : Bool) | ixS
 | ext (k : Nat)
 | len | lenS | app (sz bytes : Nat) | mx | mn
 | mkf (fn : Fn) | nilc
 | eqn (neg : Bool) | cap | cpy (sz : Nat) | apz (sz bytes : Nat) (zero : List PV) | slv (sz : Nat) (lo hi : Bool) | slx (sz : Nat) | clr (sz : Nat) (zero : List PV) | rgs | nxs | r2s
 | call (f : Nat) | callv | yv
def Et (b : Bool) (dflt : Int) (l : List SV) : Option (Int × List SV) :=
 match b, l with
 | false, l => some (dflt, l)
 | true, .pv (.i _ n) :: l => some (n, l)
 | _, _ => none
def G8 (o : Option Blk) : Option (List (List PV)) := match o with
 | some (.row _ es) => some es
 | _ => none
def Ali (o : Option Blk) (n : Nat) : Option (List PV × List HU) := match o with
 | some (.row sz es) => some ([.sl false sz es], [.del n])
 | _ => none
def Tl (a : Option (List PV × List HU)) (b : Option (List (List PV) × List HU)) : Option (List (List PV) × List HU) := match a, b with
 | some (a, u), some (b, v) => some (a :: b, u ++ v)
 | _, _ => none
def Aeb (o : Option Blk) : Nat := match o with
 | some (.row sz _) => sz
 | _ => 0
def Iq (h : Nat → Option Blk) : SV → Nat
 | .pv (.sl _ sz _) => sz
 | .pv (.s _) => 1
 | .os n => Aeb (h n)
 | _ => 0
def C1 (h : Nat → Option Blk) : SV → Option (List (List PV))
 | .pv (.sl _ _ es) => some es
 | .pv (.s l) => some (A7 l)
 | .os n => G8 (h n)
 | _ => none
def Xo (h : Nat → Option Blk) : SV → Option (List PV × List HU)
 | .os n => Ali (h n) n
 | x => (x.cells?).map fun cs => (cs, [])
def J0 (h : Nat → Option Blk) : List SV → Option (List (List PV) × List HU)
 | [] => some ([], [])
 | x :: l => Tl (Xo h x) (J0 h l)
def Pl (op : BinOp) (k k' : IntKind) (a b : Int) (K : KK) : Prop :=
 match op with
 | .add => k = k' ∧ K (.pv (.i k (k.wrap (a + b)))) []
 | .sub => k = k' ∧ K (.pv (.i k (k.wrap (a - b)))) []
 | .mul => k = k' ∧ K (.pv (.i k (k.wrap (a * b)))) []
 | .quo => k = k' ∧ b ≠ 0 ∧ K (.pv (.i k (k.wrap (a.tdiv b)))) []
 | .rem => k = k' ∧ b ≠ 0 ∧ K (.pv (.i k (a.tmod b))) []
 | .shl => 0 ≤ b ∧ K (.pv (.i k (k.wrap (a * 2 ^ (min b.toNat k.bits))))) []
 | .shr => 0 ≤ b ∧ K (.pv (.i k (a.fdiv (2 ^ (min b.toNat k.bits))))) []
 | .and => k = k' ∧ K (.pv (.i k (bits .and k a b))) []
 | .or => k = k' ∧ K (.pv (.i k (bits .or k a b))) []
 | .xor => k = k' ∧ K (.pv (.i k (bits .xor k a b))) []
 | .andNot => k = k' ∧ K (.pv (.i k (bits .andNot k a b))) []
 | .eql => k = k' ∧ K (.pv (.b (decide (a = b)))) []
 | .neq => k = k' ∧ K (.pv (.b (!decide (a = b)))) []
 | .lss => k = k' ∧ K (.pv (.b (decide (a < b)))) []
 | .leq => k = k' ∧ K (.pv (.b (decide (a ≤ b)))) []
 | .gtr => k = k' ∧ K (.pv (.b (decide (b < a)))) []
 | .geq => k = k' ∧ K (.pv (.b (decide (b ≤ a)))) []
def Y3 (op : BinOp) (a b : List UInt8) (K : KK) : Prop :=
 match op with
 | .add => a.length + b.length ≤ 9223372036854775807 ∧ K (.pv (.s (a ++ b))) []
 | .eql => K (.pv (.b (decide (a = b)))) []
 | .neq => K (.pv (.b (!decide (a = b)))) []
 | .lss => K (.pv (.b (Op.bytesLess a b))) []
 | .leq => K (.pv (.b (Op.bytesLess a b || decide (a = b)))) []
 | .gtr => K (.pv (.b (!(Op.bytesLess a b || decide (a = b))))) []
 | .geq => K (.pv (.b (!Op.bytesLess a b))) []
 | _ => False
def binB (op : BinOp) (a b : Bool) (K : KK) : Prop :=
 match op with
 | .eql => K (.pv (.b (decide (a = b)))) []
 | .neq => K (.pv (.b (!decide (a = b)))) []
 | _ => False
def N6 (op : BinOp) : SV → SV → KK → Prop
 | .pv (.i k a), .pv (.i k' b), K => Pl op k k' a b K
 | .pv (.s a), .pv (.s b), K => Y3 op a b K
 | _, _, _ => False
def V2 (op : UnOp) : SV → KK → Prop
 | .pv (.b x), K => match op with
   | .not => K (.pv (.b !x)) []
   | _ => False
 | .pv (.i k n), K => match op with
   | .neg => K (.pv (.i k (k.wrap (0 - n)))) []
   | _ => False
 | _, _ => False
def Ki : SV → SV → SV → KK → Prop
 | .pv (.b true), x, _, K => K x []
 | .pv (.b false), _, y, K => K y []
 | _, _, _, _ => False
def Xd (o : Option (List SV)) (ag : Bool) (c : Option (List PV)) (off size : Nat) (K : KK) : Prop :=
 match o.bind (Xc ag) with
 | some v => K v []
 | none => LoadK c off size ag K
def M5 (x : SV) (off size : Nat) (ag : Bool) (K : KK) : Prop := Xd (cut x.segs off size) ag x.cells? off size K
def ldV (o : Option Blk) (off size : Nat) (ag : Bool) (K : KK) : Prop := match o with
 | some (.var x) => M5 x off size ag K
 | _ => False
def ldS (o : Option Blk) (off size : Nat) (ag : Bool) (K : KK) : Prop := match o with
 | some (.var x) => LoadK x.cells? off size ag K
 | _ => False
def ldR (o : Option Blk) (sz i off size : Nat) (ag : Bool) (K : KK) : Prop := match o with
 | some (.row sz' es) => sz = sz' ∧ LoadK es[i]? off size ag K
 | _ => False
def Hq (h : Nat → Option Blk) (size : Nat) (ag : Bool) : SV → KK → Prop
 | .p n off, K => ldV (h n) off size ag K
 | .ps n e, K => ldS (h n) e size ag K
 | .pr n sz i off, K => ldR (h n) sz i off size ag K
 | .pi _ es i off, K => LoadK es[i]? off size ag K
 | _, _ => False
def H8 (n w e size : Nat) (a b : Option (List PV)) (K : KK) : Prop := match a, b with
 | some cs, some ys => e + size ≤ w ∧ K .dead [.upd n (.var (.vec w (splice cs e ys)))]
 | _, _ => False
def T7 (o : Option (List SV)) (n w off size : Nat) (a b : Option (List PV)) (K : KK) : Prop := match o with
 | some l => K .dead [.upd n (.var (.agg l))]
 | none => H8 n w off size a b K
def T6 (n : Nat) (x : SV) (off size : Nat) (y : SV) (K : KK) : Prop :=
 if off = 0 ∧ size = x.width then K .dead [.upd n (.var y)]
 else T7 (spl x.segs off size y.segs) n x.width off size x.cells? y.cells? K
def stV (o : Option Blk) (n off size : Nat) (y : SV) (K : KK) : Prop := match o with
 | some (.var x) => y.width = size ∧ y.flatB = true ∧ T6 n x off size y K
 | _ => False
def stS (o : Option Blk) (n e size : Nat) (y : SV) (K : KK) : Prop := match o with
 | some (.var x) => y.width = size ∧ y.flatB = true ∧ H8 n x.width e size x.cells? y.cells? K
 | _ => False
def Sq (o : Option (List PV)) (n sz' i off size : Nat) (es : List (List PV)) (K : KK) : Prop := match o with
 | some ys => i < es.length ∧ off + size ≤ sz' ∧ K .dead [.upd n (.row sz' (es.set i (splice (es.getD i []) off ys)))]
 | none => False
def stR (o : Option Blk) (n sz i off size : Nat) (y : SV) (K : KK) : Prop := match o with
 | some (.row sz' es) => y.width = size ∧ y.flatB = true ∧ sz = sz' ∧ Sq y.cells? n sz' i off size es K
 | _ => False
def J8 (h : Nat → Option Blk) (size : Nat) : SV → SV → KK → Prop
 | .p n off, y, K => stV (h n) n off size y K
 | .ps n e, y, K => stS (h n) n e size y K
 | .pr n sz i off, y, K => stR (h n) n sz i off size y K
 | _, _, _ => False
def Ss (x : SV) (o : Option Blk) (sz0 : Nat) (hi mx : Bool) (i j m : Int) (es : List (List PV)) (K : KK) : Prop := match x with
 | .pv (.sl full sz _) => (es = [] ∨ sz = sz0) ∧ K (.pv (.sl ((mx && decide (m = j)) || (full && !hi && !mx)) sz ((es.take j.toNat).drop i.toNat))) []
 | .os n => match o with
   | some (.row sz _) => sz = sz0 ∧ K (.pv (.sl (mx && decide (m = j)) sz ((es.take j.toNat).drop i.toNat))) [.frz n (.sl false sz es)]
   | _ => False
 | _ => False
def SV.nm : SV → Nat
 | .os n => n
 | _ => 0
def Adz (x : SV) (h : Nat → Option Blk) (sz0 : Nat) (hi mx : Bool) (es : List (List PV)) (i j : Int) (o : Option (Int × List SV)) (K : KK) : Prop := match o with
 | some (m, _) => 0 ≤ i ∧ i ≤ j ∧ j ≤ m ∧ m ≤ es.length ∧ Ss x (h x.nm) sz0 hi mx i j m es K
 | none => False
def Ad0 (x : SV) (h : Nat → Option Blk) (sz0 : Nat) (hi mx : Bool) (es : List (List PV)) (i : Int) (o : Option (Int × List SV)) (K : KK) : Prop := match o with
 | some (j, l) => Adz x h sz0 hi mx es i j (Et mx es.length l) K
 | none => False
def Ad1 (x : SV) (h : Nat → Option Blk) (sz0 : Nat) (hi mx : Bool) (es : List (List PV)) (o : Option (Int × List SV)) (K : KK) : Prop := match o with
 | some (i, l) => Ad0 x h sz0 hi mx es i (Et hi es.length l) K
 | none => False
def Pd (x : SV) (h : Nat → Option Blk) (sz0 : Nat) (lo hi mx : Bool) (l : List SV) (o : Option (List (List PV))) (K : KK) : Prop := match o with
 | some es => Ad1 x h sz0 hi mx es (Et lo 0 l) K
 | none => False
def Ahd (s : List UInt8) (i : Int) (o : Option (Int × List SV)) (K : KK) : Prop := match o with
 | some (j, _) => 0 ≤ i ∧ i ≤ j ∧ j ≤ s.length ∧ K (.pv (.s ((s.take j.toNat).drop i.toNat))) []
 | none => False
def Ady (hi : Bool) (s : List UInt8) (o : Option (Int × List SV)) (K : KK) : Prop := match o with
 | some (i, l) => Ahd s i (Et hi s.length l) K
 | none => False
def Ey (o : Option Blk) : Option (List (List PV)) := match o with
 | some (.row _ es) => some es
 | some (.rowc _ es _) => some es
 | _ => none
def D6 (o : Option Blk) : Nat := match o with
 | some (.row sz _) => sz
 | some (.rowc sz _ _) => sz
 | _ => 0
def Fe (h : Nat → Option Blk) : SV → Option (List (List PV))
 | .ov n _ lo hi => (Ey (h n)).map fun es => (es.take hi).drop lo
 | x => C1 h x
def Hg (h : Nat → Option Blk) : SV → Nat
 | .ov n z _ _ => if D6 (h n) = z then z else 0
 | x => Iq h x
def Qn (o : Option Blk) (e : Option (List (List PV))) (z d sz bytes n : Nat) (K : KK) : Prop := match o, e with
 | some (.row sz' es), some ys => sz = sz' ∧ (ys = [] ∨ z = sz) ∧ (es.length + ys.length) * bytes ≤ 70368744177664 ∧ K (.os d) [.del n, .new d (.row sz (es ++ ys))]
 | _, _ => False
def Yc (z' : Nat) (es : List (List PV)) (e : Option (List (List PV))) (z d sz bytes : Nat) (K : KK) : Prop := match e with
 | some ys => (ys = [] → es = []) ∧ (es = [] ∨ z' = sz) ∧ (ys = [] ∨ z = sz) ∧ (es.length + ys.length) * bytes ≤ 70368744177664 ∧ K (.os d) [.new d (.row sz (es ++ ys))]
 | _ => False
def Qm (o : Option Blk) (n sz i : Nat) (e : Option (List (List PV))) (z : Nat) (K : KK) : Prop := match o, e with
 | some (.row sz' es), some ys => sz = sz' ∧ (ys = [] ∨ z = sz) ∧ i + ys.length ≤ es.length ∧ K (.ov n sz 0 (i + ys.length)) [.upd n (.row sz (es.take i ++ ys ++ es.drop (i + ys.length)))]
 | _, _ => False
def H6 (h : Nat → Option Blk) (d sz bytes : Nat) : SV → SV → KK → Prop
 | .os n, y, K => Qn (h n) (C1 h y) (Iq h y) d sz bytes n K
 | .pv (.sl true z es), y, K => Yc z es (C1 h y) (Iq h y) d sz bytes K
 | .ov n z lo i, y, K => z = sz ∧ lo = 0 ∧ Qm (h n) n sz i (Fe h y) (Hg h y) K
 | _, _, _ => False
def Lr (off : Nat) : SV → KK → Prop
 | .p n o, K => K (.p n (o + off)) []
 | .ps n o, K => K (.ps n (o + off)) []
 | .pr n sz i o, K => K (.pr n sz i (o + off)) []
 | .pi sz es i o, K => K (.pi sz es i (o + off)) []
 | _, _ => False
def Ui (len stride : Nat) (j : Int) : SV → KK → Prop
 | .p n o, K => 0 ≤ j ∧ j < len ∧ K (.ps n (o + j.toNat * stride)) []
 | .ps n o, K => 0 ≤ j ∧ j < len ∧ K (.ps n (o + j.toNat * stride)) []
 | .pr n sz i o, K => 0 ≤ j ∧ j < len ∧ K (.pr n sz i (o + j.toNat * stride)) []
 | .pi sz es i o, K => 0 ≤ j ∧ j < len ∧ K (.pi sz es i (o + j.toNat * stride)) []
 | _, _ => False
def Qc (o : Option Blk) (sz : Nat) (j : Int) (n : Nat) (K : KK) : Prop := match o with
 | some (.row sz' es) => 0 ≤ j ∧ j < es.length ∧ sz = sz' ∧ K (.pr n sz j.toNat 0) []
 | _ => False
def Jz (h : Nat → Option Blk) (sz : Nat) (j : Int) : SV → KK → Prop
 | .pv (.sl _ sz' es), K => 0 ≤ j ∧ j < es.length ∧ sz = sz' ∧ K (.pi sz es j.toNat 0) []
 | .os n, K => Qc (h n) sz j n K
 | _, _ => False
def Po (Gg : Bool) : SV → SV → KK → Prop
 | .pv (.i k a), .pv (.i k' b), K => k = k' ∧ K (.pv (.i k (if Gg then max a b else min a b))) []
 | _, _, _ => False
def Ku (n : Nat) (o : Option (List PV)) (K : KK) : Prop := match o with
 | some cs => cs.length = n ∧ K (.vec n cs) []
 | none => False
def N5 (d sz : Nat) (o : Option (List (List PV) × List HU)) (K : KK) : Prop := match o with
 | some (es, u) => (∀ c ∈ es, c.length = sz) ∧ K (.os d) (u ++ [.new d (.row sz es)])
 | none => False
def Qf (g : Bool) (ks : List K1) (a b : Option (List PV)) (K : KK) : Prop := match a, b with
 | some a, some b => Ef ks a ∧ Ef ks b ∧ K (.pv (.b (g ^^ Yl a b))) []
 | _, _ => False
def eq1 (g : Bool) (ks : List K1) (x : SV) (K : KK) : Prop := match ks, x with
 | [], .p _ _ => K (.pv (.b g)) []
 | [], .pi _ _ _ _ => K (.pv (.b g)) []
 | [], .pv (.v (.pointer none)) => K (.pv (.b !g)) []
 | _ :: _, .fn _ _ => K (.pv (.b g)) []
 | _ :: _, .pv (.v .nilFunc) => K (.pv (.b !g)) []
 | _, _ => False
def Hx (o : Option (List (List PV))) (K : KK) : Prop := match o with
 | some es => K (.pv (.i .i64 es.length)) []
 | none => False
def Mx (o : Option (List (List PV))) (K : KK) : Prop := match o with
 | some es => Yk es K
 | none => False
def Ya (o : Option Blk) (n : Nat) (K : KK) : Prop := match o with
 | some (.row sz es) => sz = 1 ∧ es ≠ [] ∧ K (.os n) []
 | _ => False
def Tq (neg : Bool) (o : Option (List (List PV))) (K : KK) : Prop := match o with
 | some es => ∀ b : Bool, (es ≠ [] → b = false) → K (.pv (.b (neg ^^ b))) []
 | none => False
def X4 (o : Option Blk) (n : Nat) (K : KK) : Prop := match o with
 | some (.row sz es) => ∀ c : Nat, es.length ≤ c → K (.pv (.i .i64 c)) [.upd n (.rowc sz es c)]
 | some (.rowc _ _ c) => K (.pv (.i .i64 c)) []
 | _ => False
def J2 (o : Option Blk) (n sz : Nat) (lo : Nat) (hi : Option Nat) (e : Option (List (List PV))) (z : Nat) (K : KK) : Prop := match o, e with
 | some (.row sz' es), some ys => sz = sz' ∧ (ys = [] ∨ z = sz) ∧
    K (.pv (.i .i64 ((min ys.length (hi.getD es.length - lo) : Nat) : Int))) [.upd n (.row sz (es.take lo ++ ys.take (hi.getD es.length - lo) ++ es.drop (lo + min ys.length (hi.getD es.length - lo))))]
 | _, _ => False
def J1 (h : Nat → Option Blk) (sz : Nat) : SV → SV → KK → Prop
 | .os n, y, K => J2 (h n) n sz 0 none (Fe h y) (Hg h y) K
 | .ov n z lo hi, y, K => z = sz ∧ J2 (h n) n sz lo (some hi) (Fe h y) (Hg h y) K
 | _, _, _ => False
def Tw (o : Option Blk) (d sz bytes : Nat) (z : List PV) (hi : Nat) (m : Int) (K : KK) : Prop := match o with
 | some (.rowc sz' es c) => sz = sz' ∧ 0 < m ∧ (c : Int) < hi + m ∧ (hi + m) * bytes ≤ 70368744177664 ∧ K (.os d) [.new d (.row sz (es.take hi ++ List.replicate m.toNat z))]
 | _ => False
def N8 (h : Nat → Option Blk) (d sz bytes : Nat) (z : List PV) (m : Int) : SV → KK → Prop
 | .ov n _ lo hi, K => lo = 0 ∧ Tw (h n) d sz bytes z hi m K
 | _, _ => False
def Ahb (n sz len : Nat) (i : Int) (o : Option (Int × List SV)) (K : KK) : Prop := match o with
 | some (j, _) => 0 ≤ i ∧ i ≤ j ∧ j ≤ len ∧ K (.ov n sz i.toNat j.toNat) []
 | none => False
def Ahc (n sz : Nat) (hi : Bool) (e : Option (List (List PV))) (z : Nat) (o : Option (Int × List SV)) (K : KK) : Prop := match e, o with
 | some es, some (i, l) => sz = z ∧ Ahb n sz es.length i (Et hi es.length l) K
 | _, _ => False
def Aqx (e : Option (List (List PV))) (z n sz : Nat) (i j : Int) (K : KK) : Prop := match e with
 | some es => sz = z ∧ 0 ≤ i ∧ i ≤ j ∧ j ≤ es.length ∧ K (.ov n sz i.toNat j.toNat) []
 | none => False
def Axp (o : Option Blk) (n sz : Nat) (l : List SV) (K : KK) : Prop := match l with
 | [.pv (.i _ i), .pv (.i _ j)] => Aqx (Ey o) (D6 o) n sz i j K
 | _ => False
def L6 (h : Nat → Option Blk) (sz : Nat) (lo hi : Bool) (x : SV) (l : List SV) (K : KK) : Prop := match x with
 | .os n => Ahc n sz hi (Ey (h n)) (D6 (h n)) (Et lo 0 l) K
 | .pv p => Pd (.pv p) h sz lo hi false l (C1 h (.pv p)) K
 | .ov n z a _ => z = sz ∧ a = 0 ∧ lo = true ∧ hi = true ∧ Axp (h n) n sz l K
 | _ => False
def Wo (o : Option Blk) (n d sz : Nat) (j : Int) (T : Prop) (K : KK) : Prop := match o with
 | some (.rowc sz' es c) => sz = sz' ∧ es.length ≤ j ∧ j ≤ c ∧ ∀ g : List (List PV), g.length = j.toNat - es.length → (∀ x ∈ g, x.length = sz) → K (.os d) [.del n, .new d (.row sz (es ++ g))]
 | _ => T
def Wn (h : Nat → Option Blk) (d sz : Nat) (x : SV) (j : Int) (l : List SV) (K : KK) : Prop := match x with
 | .os n => Wo (h n) n d sz j (Pd (.os n) h sz false true false l (C1 h (.os n)) K) K
 | .pv p => Pd (.pv p) h sz false true false l (C1 h (.pv p)) K
 | _ => False
def A22 (e : Option (List (List PV))) (z sz : Nat) (i j m : Int) (K : KK) : Prop := match e with
 | some es => sz = z ∧ 0 ≤ i ∧ i ≤ j ∧ j ≤ m ∧ m ≤ es.length ∧ K .dead []
 | none => False
def Avd (o : Option Blk) (n sz : Nat) (zero : List PV) (lo hi : Nat) (K : KK) : Prop := match o with
 | some (.row sz' es) => sz = sz' ∧ K (.tup []) [.upd n (.row sz (es.take lo ++ List.replicate (hi - lo) zero ++ es.drop hi))]
 | _ => False
def Ac3 (h : Nat → Option Blk) (sz : Nat) (zero : List PV) (x : SV) (K : KK) : Prop := match x with
 | .ov n z lo hi => z = sz ∧ Avd (h n) n sz zero lo hi K
 | _ => False
def Pj (l : List UInt8) (pos : Nat) : Nat × Nat := Utf8.decode ⟨l.toArray⟩ pos
def Uy (n : Int) : List UInt8 := (Utf8.encode n).data.toList
def S8 (o : Option Blk) (n : Nat) (K : KK) : Prop := match o with
 | some (.it l pos) => if pos < l.length then K (.tup [.pv (.b true), .pv (.i .i64 pos), .pv (.i .i32 (Pj l pos).1)]) [.upd n (.it l (pos + (Pj l pos).2))] else K (.tup [.pv (.b false)]) []
 | _ => False
def W8 (h : Nat → Option Blk) (x : SV) (K : KK) : Prop := match x with
 | .p n 0 => S8 (h n) n K
 | _ => False
def Afy (o : Option SV) (K : KK) : Prop := match o with
 | some x => K x []
 | none => False
def An (d : Nat) (h : Nat → Option Blk) (k : Kd) (l : List SV) (K : KK) : Prop :=
 match k with
 | .mv => match l with | [x] => K x [] | _ => False
 | .pick => match l with | [c, x, y] => Ki c x y K | _ => False
 | .new z => K (.p d 0) [.new d (.var z)]
 | .box => match l with | [x] => x.flatB = true ∧ K (.p d 0) [.new d (.var (x.kill d))] | _ => False
 | .bld ns => Jk l = ns ∧ SV.flatBL l = true ∧ K (.agg (M1 l)) []
 | .bldV n sz => Y4 sz l ∧ Ku n (SV.cellsL? l) K
 | .bsl sz => N5 d sz (J0 h l) K
 | .ld size ag => match l with | [a] => Hq h size ag a K | _ => False
 | .sto size => match l with | [a, y] => J8 h size a y K | _ => False
 | .bin op => match l with | [x, y] => N6 op x y K | _ => False
 | .binB op => match l with | [.pv (.b x), .pv (.b y)] => binB op x y K | _ => False
 | .eqv neg ks => match l with | [x, y] => x.isAg = true ∧ y.isAg = true ∧ Qf neg ks x.cells? y.cells? K | [x] => eq1 neg ks x K | _ => False
 | .un op => match l with | [x] => V2 op x K | _ => False
 | .cvI k => match l with | [.pv (.i _ n)] => K (.pv (.i k (k.wrap n))) [] | _ => False
 | .cvS => match l with | [.pv (.s l)] => K (.pv (.s l)) [] | _ => False
 | .s2bD => match l with | [.pv (.s l)] => K (.pv (.sl false 1 (A7 l))) [] | _ => False
 | .s2b => match l with | [.pv (.s l)] => K (.os d) [.new d (.row 1 (A7 l))] | _ => False
 | .b2s => match l with | [.pv (.sl _ _ es)] => Mx (some es) K | [.os n] => Mx (G8 (h n)) K | _ => False
 | .b2b => match l with | [.os n] => Ya (h n) n K | _ => False
 | .mks zero bytes => match l with | [.pv (.i _ l), .pv (.i _ c)] => 0 ≤ l ∧ l ≤ c ∧ c * bytes ≤ 70368744177664 ∧ K (.os d) [.new d (.row zero.length (List.replicate l.toNat zero))] | _ => False
 | .slc sz lo hi mx => match l with | x :: l => Pd x h sz lo hi mx l (C1 h x) K | _ => False
 | .sls lo hi => match l with | .pv (.s s) :: l => Ady hi s (Et lo 0 l) K | _ => False
 | .fa off => match l with | [a] => Lr off a K | _ => False
 | .iaC off => match l with | [a] => Lr off a K | _ => False
 | .iaS sz => match l with | [a, .pv (.i _ j)] => Jz h sz j a K | _ => False
 | .iaA len stride => match l with | [a, .pv (.i _ j)] => Ui len stride j a K | _ => False
 | .fld off size ag => match l with | [x] => x.isAg = true ∧ M5 x off size ag K | _ => False
 | .ixA len stride ag => match l with | [x, .pv (.i _ j)] => 0 ≤ j ∧ j < len ∧ x.isAg = true ∧ LoadK x.cells? (j.toNat * stride) stride ag K | _ => False
 | .ixS => match l with | [.pv (.s l), .pv (.i _ j)] => 0 ≤ j ∧ j < l.length ∧ K (.pv (.i .u8 (l.getD j.toNat 0).toNat)) [] | _ => False
 | .ext k => match l with | [.tup l] => Afy (nth l k) K | _ => False
 | .len => match l with | [.pv (.sl _ _ es)] => Hx (some es) K | [.os n] => Hx (G8 (h n)) K | [.ov _ _ lo hi] => K (.pv (.i .i64 ((hi - lo : Nat) : Int))) [] | [.pv (.fs _ es)] => Hx (some es) K | _ => False
 | .lenS => match l with | [.pv (.s l)] => K (.pv (.i .i64 l.length)) [] | _ => False
 | .app sz bytes => match l with | [x, y] => H6 h d sz bytes x y K | _ => False
 | .mx => match l with | [x, y] => Po true x y K | _ => False
 | .mn => match l with | [x, y] => Po false x y K | _ => False
 | .mkf fn => K (.fn fn l) []
 | .nilc => match l with
   | [.p n o] => K (.p n o) []
   | [.ps n o] => K (.ps n o) []
   | [.pr n z i o] => K (.pr n z i o) []
   | [.pi z es i o] => K (.pi z es i o) []
   | [.fn f l] => K (.fn f l) []
   | _ => False
 | .eqn neg => match l with | [.pv (.sl _ _ es)] => Tq neg (some es) K | [.os n] => Tq neg (G8 (h n)) K | _ => False
 | .cap => match l with | [.os n] => X4 (h n) n K | _ => False
 | .cpy sz => match l with | [x, y] => J1 h sz x y K | _ => False
 | .apz sz bytes z => match l with | [x, .pv (.i _ m)] => N8 h d sz bytes z m x K | _ => False
 | .slv sz lo hi => match l with | x :: l => L6 h sz lo hi x l K | _ => False
 | .slx sz => match l with | [x, .pv (.i k j)] => Wn h d sz x j [.pv (.i k j)] K | [.os n, .pv (.i _ i), .pv (.i _ j), .pv (.i _ m)] => A22 (Ey (h n)) (D6 (h n)) sz i j m K | [.pv p, i, j, m] => Pd (.pv p) h sz true true true [i, j, m] (C1 h (.pv p)) K | _ => False
 | .clr sz z => match l with | [x] => Ac3 h sz z x K | _ => False
 | .rgs => match l with | [.pv (.s l)] => K (.p d 0) [.new d (.it l 0)] | _ => False
 | .nxs => match l with | [x] => W8 h x K | _ => False
 | .r2s => match l with | [.pv (.i _ n)] => K (.pv (.s (Uy n))) [] | _ => False
 | .call _ => False
 | .callv => False
 | .yv => False
structure I where
 k : Kd
 x : List Opd
 d : Option Nat
 g : Option (Nat × Bool)
inductive C where
 | ops (l : List I)
 | any (D : List Nat) (l : List (I × Nat × List Nat))
 | anyF (D : List Nat) (l : List (I × Nat × List Nat))
 | anyP (D : List Nat) (l : List (I × Nat × List Nat × List Nat × Nat))
 | seq (a b : C)
 | ite (c : Opd) (a b : C)
 | block (id : Nat) (a : C)
 | loop (a : C)
 | rng (g : Opd) (ps : List Nat) (a b : C)
 | exit (id : Nat)
 | ret
 | skip
 | bad
inductive Ex where
 | normal | exit (id : Nat) | ret
abbrev C3 := Ex → FS → Prop
structure Env where
 call : Nat → List SV → (Nat → Option Blk) → Nat → SV → List HU → Prop
 deep : Nat → List SV → (Nat → Option Blk) → Nat → SV → List HU → Prop
 loop : C → C3 → FS → Prop
 yld : Nat → List SV → KK → FS → Prop
 rng : Nat → List SV → List Nat → C → C → C3 → FS → Prop
def Env.reg (E : Env) : Env := ⟨E.call, fun _ _ _ _ _ _ => False, E.loop, E.yld, E.rng⟩
variable (E : Env)
def Bz (s : FS) : List Opd → List SV
 | [] => []
 | x :: l => s.ev x :: Bz s l
def N4 (f : Nat) (args : List SV) (h : Nat → Option Blk) (d : Nat) (K : KK) : Prop := ∃ x u, (E.call f args h d x u ∨ E.deep f args h d x u) ∧ K x u
def J3 (l : List SV) (h : Nat → Option Blk) (d : Nat) (K : KK) : Prop := match l with
 | .fn (.func f) cap :: args => N4 E f (args ++ cap) h d K
 | _ => False
def yvK (l : List SV) (s : FS) (d : Nat) (K : KK) : Prop := match l with
 | .fn (.yield n) [] :: args => E.yld n args K s
 | l => J3 E l s.h d K
def body (k : Kd) (x : List Opd) (d : Nat) (s : FS) (K : KK) : Prop :=
 match k with
 | .call f => N4 E f (Bz s x) s.h d K
 | .callv => J3 E (Bz s x) s.h d K
 | .yv => yvK E (Bz s x) s d K
 | k => An d s.h k (Bz s x) K
def Eu (x : SV) (w : Bool) (A B : Prop) : Prop := match x with
 | .pv (.b p) => if p = w then A else B
 | .tup [] => B
 | _ => False
def opS (i : I) (s : FS) (K : KK) : Prop := match i.g with
 | none => body E i.k i.x (i.d.getD 0) s K
 | some (j, w) => Eu (s.t j) w (body E i.k i.x (i.d.getD 0) s K) (K (.tup []) [])
def sxL : List I → C3 → FS → Prop
 | [], Q, s => Q .normal s
 | i :: l, Q, s => opS E i s fun x u => sxL l Q (s.apply i.d x u)
def noD (d : Nat) (x : SV) : List Nat → Prop
 | [] => True
 | e :: D => (if e = d then True else x.kill e = x) ∧ noD d x D
def Pg (d : Nat) (b : Blk) : List Nat → Prop
 | [] => True
 | e :: D => (if e = d then True else b.kill e = b) ∧ Pg d b D
def Er (D : List Nat) (d : Nat) : List HU → Prop
 | [] => True
 | .new n b :: u => n = d ∧ n ∈ D ∧ Pg d b D ∧ Er D d u
 | .upd _ b :: u => Pg d b D ∧ Er D d u
 | .del _ :: u => Er D d u
 | .frz _ _ :: _ => False
 | .set _ _ :: _ => False
def Dr (D : List Nat) (d : Nat) : List HU → Prop
 | [] => True
 | .new n b :: u => n = d ∧ n ∈ D ∧ Pg d b D ∧ Dr D d u
 | .upd _ b :: u => Pg d b D ∧ Dr D d u
 | .del _ :: u => Dr D d u
 | .frz _ _ :: u => Dr D d u
 | .set _ _ :: _ => False
def Hw (D : List Nat) (d : Nat) : List HU → Prop
 | [] => True
 | [.new n b] => n = d ∧ n ∈ D ∧ Pg d b D
 | _ => False
def okA (D : List Nat) (c d : Nat) (x : SV) (u : List HU) : Prop := noD d x D ∧ match c with
 | 0 => u = []
 | 1 => Hw D d u
 | 2 => Er D d u
 | _ => Dr D d u
def sxA : List (I × Nat × List Nat) → C3 → FS → Prop
 | [], Q, s => Q .normal s
 | i :: l, Q, s => opS E i.1 s fun x u => okA i.2.2 i.2.1 (i.1.d.getD 1000000000) x u ∧ sxA l Q (s.apply i.1.d x u)
def killD : List Nat → FS → FS
 | [], s => s
 | d :: D, s => killD D (s.kill d)
inductive Frzs : FS → FS → Prop where
 | refl (s : FS) : Frzs s s
 | step {s s' : FS} (n sz : Nat) (es : List (List PV)) (h : s.h n = some (.row sz es)) (t : Frzs (s.frz n (.sl false sz es)) s') : Frzs s s'
def A7o (D : List Nat) (l : List (I × Nat × List Nat)) (Q : C3) (s : FS) : Prop := ∃ s', Frzs s s' ∧ sxA E l Q (killD D s')
def inT (n : Nat) : List Nat → Prop
 | [] => False
 | m :: T => if n = m then True else inT n T
def Hs (T : List Nat) : List HU → Prop
 | [] => True
 | .new n _ :: u => inT n T ∧ Hs T u
 | .upd n _ :: u => inT n T ∧ Hs T u
 | .del n :: u => inT n T ∧ Hs T u
 | .frz _ _ :: _ => False
 | .set _ _ :: _ => False
def Yv (n : Nat) : List Nat → Prop
 | [] => True
 | m :: T => if n = m then False else Yv n T
def Rz : List Nat → List Nat → Prop
 | [], _ => True
 | n :: S, T => Yv n T ∧ Rz S T
def Yq (acc : List (Nat × List Nat)) : List Nat → List Nat → Prop
 | [], _ => True
 | k :: ps, T => Rz (lk [] k acc) T ∧ Yq acc ps T
def okP (D : List Nat) (c d : Nat) (x : SV) (u : List HU) (T : List Nat) : Prop := noD d x D ∧ match c with
 | 0 => u = []
 | 1 => Hw D d u
 | _ => Er D d u ∧ Hs T u
mutual
def tnP : SV → List Nat
 | .p n _ => [n]
 | .ps n _ => [n]
 | .pr n _ _ _ => [n]
 | .os n => [n]
 | .ov n _ _ _ => [n]
 | .fn _ cap => K9 cap
 | .agg l => K9 l
 | .tup l => K9 l
 | _ => []
def K9 : List SV → List Nat
 | [] => []
 | x :: l => tnP x ++ K9 l
end
def Od (s : FS) (i : I) : List Nat := match i.d with
 | some d => d :: K9 (Bz s i.x)
 | none => K9 (Bz s i.x)
def Ac9 (c k : Nat) (T : List Nat) (acc : List (Nat × List Nat)) : List (Nat × List Nat) := match c with
 | 0 => acc
 | _ => (k, T) :: acc
def sxP : List (I × Nat × List Nat × List Nat × Nat) → List (Nat × List Nat) → C3 → FS → Prop
 | [], _, Q, s => Q .normal s
 | i :: l, acc, Q, s => opS E i.1 s fun x u => okP i.2.2.1 i.2.1 (i.1.d.getD 1000000000) x u (Od s i.1) ∧ Yq acc i.2.2.2.1 (Od s i.1) ∧ sxP l (Ac9 i.2.1 i.2.2.2.2 (Od s i.1) acc) Q (s.apply i.1.d x u)
def Av1 (D : List Nat) (l : List (I × Nat × List Nat × List Nat × Nat)) (Q : C3) (s : FS) : Prop := ∃ s', Frzs s s' ∧ sxP E l [] Q (killD D s')
def Ajv (K : FS → Prop) (Q : C3) : C3
 | .normal, s => K s
 | e, s => Q e s
def Uh (id : Nat) (Q : C3) : C3
 | .exit j, s => if j = id then Q .normal s else Q (.exit j) s
 | e, s => Q e s
def A8s (g : SV) (ps : List Nat) (a b : C) (Q : C3) (s : FS) : Prop := match g with
 | .fn (.func f) cap => E.rng f cap ps a b Q s
 | _ => False
def sx : C → C3 → FS → Prop
 | .ops l, Q, s => sxL E l Q s
 | .any D l, Q, s => sxA E.reg l Q (killD D s)
 | .anyF D l, Q, s => A7o E.reg D l Q s
 | .anyP D l, Q, s => Av1 E.reg D l Q s
 | .seq a b, Q, s => sx a (Ajv (sx b Q) Q) s
 | .ite c a b, Q, s => match s.ev c with
   | .pv (.b p) => if p = true then sx a Q s else sx b Q s
   | _ => False
 | .block id a, Q, s => sx a (Uh id Q) s
 | .loop a, Q, s => E.loop a Q s
 | .rng g ps a b, Q, s => A8s E (s.ev g) ps a b Q s
 | .exit id, Q, s => Q (.exit id) s
 | .ret, Q, s => Q .ret s
 | .skip, Q, s => Q .normal s
 | .bad, _, _ => False
def Ai (P : Program) (t : TypeId) : Option Nat := (P.info? t).map (·.size)
def It (P : Program) (t : TypeId) : Option Nat := (P.info? t).map (·.bytes)
def Fl (P : Program) (t : TypeId) : Option Bool := (P.underlying t).map fun
 | .struct _ | .array _ _ => true
 | _ => false
def Fu : Value → Option PV
 | .int k n => some (.i k n)
 | .bool b => some (.b b)
 | .string s => some (.s s.data.toList)
 | .slice none 0 0 => some (.sl true 0 [])
 | .pointer none => some (.v (.pointer none))
 | .nilFunc => some (.v .nilFunc)
 | .nilIface => some (.v .nilIface)
 | .map none => some (.v (.map none))
 | _ => none
def Au {α : Type} : List (Option α) → Option (List α)
 | [] => some []
 | x :: l => match x, Au l with
   | some a, some b => some (a :: b)
   | _, _ => none
def Df (P : Program) (t : TypeId) : Option (List PV) :=
 match (P.info? t).bind (·.zero) with
 | some (.agg cs) => Au (cs.toList.map Fu)
 | some v => (Fu v).map fun x => [x]
 | none => none
def Ap6 (P : Program) : Nat → TypeId → Option SV
 | 0, _ => none
 | d + 1, t => match P.underlying t with
   | some (.array n e) => match Df P t with
     | some cs => some (.vec cs.length cs)
     | none => none
   | some (.struct fs) => (Au (fs.toList.map fun f => Ap6 P d f.type)).map fun l => .agg (M1 l)
   | some _ => match Df P t with
     | some [x] => some (.pv x)
     | _ => none
   | none => none
def S6 (P : Program) : Nat → List Field → List (List K1) → Bool
 | _, [], [] => true
 | off, f :: fs, l :: ls => decide (f.offset = off) && decide (Ai P f.type = some l.length) && (f.name != "_") && decide (0 < l.length) && S6 P (off + l.length) fs ls
 | _, _, _ => false
def K2 (P : Program) : Nat → TypeId → Option (List K1)
 | 0, _ => none
 | d + 1, t => match P.underlying t with
   | some (.int k) => some [.int k]
   | some .bool => some [.bool]
   | some .string => some [.str]
   | some (.array n e) => match K2 P d e with
     | some l => if Ai P e = some l.length then some (List.replicate n l).flatten else none
     | none => none
   | some (.struct fs) => if P.stoodInHeld t then none else match Au (fs.toList.map fun f => K2 P d f.type) with
     | some ls => if S6 P 0 fs.toList ls then some ls.flatten else none
     | none => none
   | _ => none
def Bu : Operand → Option Opd
 | .tmp t => if t < Gg then some (.t t) else none
 | .const v => match v with
   | .agg cs => (Au (cs.toList.map Fu)).map fun l => .c (.vec l.length l)
   | v => (Fu v).map fun x => .c (.pv x)
 | .func f => some (.c (.fn (.func f) []))
 | .global _ => none
def A1 (l : List Operand) : Option (List Opd) := Au (l.map Bu)
def Arp : PV → PV → Bool
 | .i k n, .i k' n' => decide (k = k') && decide (n = n')
 | .b x, .b y => x == y
 | .s l, .s m => decide (l = m)
 | .sl true 0 [], .sl true 0 [] => true
 | .v (.pointer none), .v (.pointer none) => true
 | .v .nilFunc, .v .nilFunc => true
 | .v .nilIface, .v .nilIface => true
 | .v (.map none), .v (.map none) => true
 | _, _ => false
def Ni : List PV → List PV → Bool
 | [], [] => true
 | x :: l, y :: m => Arp x y && Ni l m
 | _, _ => false
mutual
def SV.okB : SV → Bool
 | .pv _ => true
 | .vec m cs => decide (cs.length = m)
 | .agg l => SV.okBL l
 | _ => false
def SV.okBL : List SV → Bool
 | [] => true
 | x :: l => x.okB && SV.okBL l
end
def Ap7 (P : Program) (t : TypeId) (z : SV) : Bool :=
 z.okB && match z.cells?, Df P t, Ai P t, Fl P t with
 | some a, some b, some n, some ag => (match (P.info? t).bind (·.zero) with | some (.agg _) => ag | some _ => !ag | none => false) && Ni a b && decide (a.length = n) && (match z with | .pv _ => !ag | .vec m _ => ag && decide (m = n) | .agg l => ag && decide (SV.widthL l = n) | _ => false)
 | _, _, _, _ => false
def Tz (P : Program) (t : TypeId) : Option SV := match Ap6 P 20 t with
 | some z => if Ap7 P t z then some z else none
 | none => none
def Aqg (P : Program) : Nat → List Field → Bool
 | _, [] => true
 | off, f :: fs => decide (f.offset = off) && match Ai P f.type with
   | some n => Aqg P (off + n) fs
   | none => false
def Xr (P : Program) : List Field → Nat
 | [] => 0
 | f :: fs => (Ai P f.type).getD 0 + Xr P fs
def Oe (P : Program) (t : TypeId) (ts : List TypeId) : Bool :=
 match Df P t, Au (ts.map (Df P)), Fl P t, (P.info? t).bind (·.zero) with
 | some a, some bs, some true, some (.agg _) => Ni a bs.flatten && (ts.zip bs).all fun p => decide (Ai P p.1 = some p.2.length)
 | _, _, _, _ => false
def ins (k : Kd) (x : Option (List Opd)) : Option (Kd × List Opd) := x.map fun x => (k, x)
def R3 : Operand → Option Int
 | .const (.int _ n) => some n
 | _ => none
def Mf (P : Program) (t : TypeId) (parts : List (Nat × Operand)) (i : Nat) : Option Opd :=
 match parts.find? (fun p => p.1 == i) with
 | some (_, x) => Bu x
 | none => (Tz P t).map .c
def I0 : List Nat → Bool
 | [] => true
 | x :: l => !l.contains x && I0 l
def Anx (P : Program) (e : TypeId) : Bool := match P.underlying e with
 | some (.int .u8) => true
 | _ => false
theorem Rj {P : Program} {e : TypeId} (h : Anx P e = true) : P.underlying e = some (.int .u8) := by
 unfold Anx at h;split at h
 · assumption
 · cases h
def Atl (P : Program) (u : TypeId) : Bool := match P.underlying u with
 | some (.slice _) => true
 | some .string => true
 | _ => false
theorem Atk {P : Program} {u : TypeId} (h : Atl P u = true) : (∃ e', P.underlying u = some (.slice e')) ∨ P.underlying u = some .string := by
 unfold Atl at h;split at h
 · exact .inl ⟨_, by assumption⟩
 · exact .inr (by assumption)
 · cases h
def Aci : Operand → Bool
 | .const (.slice none 0 0) => true
 | _ => false
def Acg : Operand → Bool
 | .const (.pointer none) => true
 | _ => false
def Ach : Operand → Bool
 | .const .nilFunc => true
 | _ => false
def Ah9 (P : Program) (u : TypeId) : Bool := match P.underlying u with
 | some (.int _) => true
 | _ => false
def J7 (P : Program) (o : Oper) : Option (Kd × List Opd) :=
 match o.op with
 | .move x | .assign x => ins .mv (A1 [x])
 | .pick c a b => ins .pick (A1 [c, a, b])
 | .alloc t => match Tz P t with
   | some z => some (.new z, [])
   | none => none
 | .box _ x => ins .box (A1 [x])
 | .build t parts => match P.underlying t with
   | some (.struct fs) => if Aqg P 0 fs.toList && decide (Ai P t = some (Xr P fs.toList)) && I0 (parts.toList.map (·.1)) && parts.toList.all (fun p => decide (p.1 < fs.size)) && Oe P t (fs.toList.map (·.type)) then
      ins (.bld (fs.toList.map fun f => (Ai P f.type).getD 0)) (Au ((List.range (fs.toList.map (·.type)).length).map fun i => match (fs.toList.map (·.type))[i]? with
      | some t => Mf P t parts.toList i
      | none => none)) else none
   | some (.array n e) => match Ai P t with
     | some sz => if I0 (parts.toList.map (·.1)) && parts.toList.all (fun p => decide (p.1 < n)) && decide (Ai P t = (Ai P e).map (n * ·)) && Oe P t (List.replicate n e) then ins (.bldV sz ((Ai P e).getD 0)) (Au ((List.range (List.replicate n e).length).map fun i => match (List.replicate n e)[i]? with
       | some t => Mf P t parts.toList i
       | none => none)) else none
     | none => none
   | _ => none
 | .buildSlice t len parts => match P.underlying t with
   | some (.slice e) => match Ai P e with
     | some sz => if I0 (parts.toList.map (·.1)) && parts.toList.all (fun p => decide (p.1 < len)) && decide (0 < sz) && decide (len * sz ≤ 16777216) && decide ((Df P e).map List.length = some sz) then ins (.bsl sz) (Au ((List.range (List.replicate len e).length).map fun i => match (List.replicate len e)[i]? with
       | some t => Mf P t parts.toList i
       | none => none)) else none
     | none => none
   | _ => none
 | .load t a => match Ai P t, Fl P t with
   | some sz, some ag => if sz = 0 then none else ins (.ld sz ag) (A1 [a])
   | _, _ => none
 | .store t a x => match Ai P t with
   | some sz => ins (.sto sz) (A1 [a, x])
   | none => none
 | .nilCheck x => ins .nilc (A1 [x])
 | .binOp op t x y _ => match P.underlying t with
   | some (.int _) => ins (.bin op) (A1 [x, y])
   | some .string => ins (.bin op) (A1 [x, y])
   | some .bool => ins (.binB op) (A1 [x, y])
   | some (.slice _) => match Aci y, op with
     | true, .eql => ins (.eqn false) (A1 [x])
     | true, .neq => ins (.eqn true) (A1 [x])
     | _, _ => none
   | some (.pointer _) => match Acg y, op with
     | true, .eql => ins (.eqv false []) (A1 [x])
     | true, .neq => ins (.eqv true []) (A1 [x])
     | _, _ => none
   | some (.func _ _ _) => match Ach y, op with
     | true, .eql => ins (.eqv false [.other]) (A1 [x])
     | true, .neq => ins (.eqv true [.other]) (A1 [x])
     | _, _ => none
   | some (.struct _) | some (.array _ _) => if P.eqGuardType P.depth t then none else match K2 P 20 t, op with
     | some ks, .eql => ins (.eqv false ks) (A1 [x, y])
     | some ks, .neq => ins (.eqv true ks) (A1 [x, y])
     | _, _ => none
   | _ => none
 | .unOp op _ x => ins (.un op) (A1 [x])
 | .convert src dst x => match P.underlying src, P.underlying dst with
   | some (.int _), some (.int k) => ins (.cvI k) (A1 [x])
   | some (.int _), some .string => ins .r2s (A1 [x])
   | some .string, some .string => ins .cvS (A1 [x])
   | some .string, some (.slice e) => if Anx P e then ins .s2b (A1 [x]) else none
   | some (.slice e), some .string => if Anx P e then ins .b2s (A1 [x]) else none
   | some (.slice e), some (.slice _) => if src == dst && Anx P e then ins .b2b (A1 [x]) else none
   | _, _ => none
 | .range t x => match P.underlying t with
   | some .string => ins .rgs (A1 [x])
   | _ => none
 | .next x b => if b then ins .nxs (A1 [x]) else none
 | .makeFunc fn first cap => if first.size = 0 then ins (.mkf fn) (A1 cap.toList) else none
 | .makeSlice t l c => match P.underlying t with
   | some (.slice e) => match Df P e, It P e, Ai P e with
     | some z, some b, some sz => if 0 < b ∧ 0 < sz ∧ z.length = sz then ins (.mks z b) (A1 [l, c]) else none
     | _, _, _ => none
   | _ => none
 | .slice t x lo hi mx => match P.underlying t with
   | some .string => if mx.isSome then none else ins (.sls lo.isSome hi.isSome) (A1 (x :: (lo.toList ++ hi.toList)))
   | some (.slice e) => match Ai P e with
     | some sz => if mx.isSome && !hi.isSome then none else ins (.slc sz lo.isSome hi.isSome mx.isSome) (A1 (x :: (lo.toList ++ hi.toList ++ mx.toList)))
     | none => none
   | _ => none
 | .fieldAddr t x f => match P.underlying t with
   | some (.struct fs) => match fs[f]? with
     | some f => if (Ai P f.type).getD 0 = 0 then none else ins (.fa f.offset) (A1 [x])
     | none => none
   | _ => none
 | .field t x f => match P.underlying t with
   | some (.struct fs) => match fs[f]? with
     | some f => match Ai P f.type, Fl P f.type with
       | some sz, some ag => if sz = 0 then none else ins (.fld f.offset sz ag) (A1 [x])
       | _, _ => none
     | none => none
   | _ => none
 | .indexAddr t x i => match P.underlying t with
   | some (.slice e) => match Ai P e with
     | some sz => ins (.iaS sz) (A1 [x, i])
     | none => none
   | some (.array n e) => match Ai P e, R3 i with
     | some sz, some j => if 0 ≤ j ∧ j < n ∧ 1 < n then ins (.iaC (j.toNat * sz)) (A1 [x]) else none
     | some sz, none => if 1 < n then ins (.iaA n sz) (A1 [x, i]) else none
     | none, _ => none
   | _ => none
 | .index t x i => match P.underlying t with
   | some .string => ins .ixS (A1 [x, i])
   | some (.array n e) => match Ai P e, Fl P e, R3 i with
     | some sz, some ag, some j => if 0 ≤ j ∧ j < n ∧ 0 < sz then ins (.fld (j.toNat * sz) sz ag) (A1 [x]) else none
     | some sz, some ag, none => if sz = 0 then none else ins (.ixA n sz ag) (A1 [x, i])
     | _, _, _ => none
   | _ => none
 | .extract x k => ins (.ext k) (A1 [x])
 | .call c => match c.callee with
   | .value (.func f) => ins (.call f) (A1 c.args.toList)
   | .value x => ins .callv (A1 (x :: c.args.toList))
   | .builtin .len => match c.argTypes.toList with
     | t :: _ => match P.underlying t with
       | some .string => ins .lenS (A1 c.args.toList)
       | some (.slice _) => ins .len (A1 c.args.toList)
       | _ => none
     | [] => none
   | .builtin .append => match c.argTypes.toList with
     | [t, u] => match P.underlying t with
       | some (.slice e) => if Atl P u then match Ai P e, It P e, Df P e with
         | some sz, some b, some z => if 0 < b ∧ b ≤ 1048576 ∧ 0 < sz ∧ z.length = sz then ins (.app sz b) (A1 c.args.toList) else none
         | _, _, _ => none
         else if Ah9 P u then match Ai P e, It P e, Df P e with
         | some sz, some b, some z => if 0 < b ∧ b ≤ 1048576 ∧ 0 < sz ∧ z.length = sz then ins (.apz sz b z) (A1 c.args.toList) else none
         | _, _, _ => none
         else none
       | _ => none
     | _ => none
   | .builtin .cap => match c.argTypes.toList with
     | [t] => match P.underlying t with
       | some (.slice _) => ins .cap (A1 c.args.toList)
       | _ => none
     | _ => none
   | .builtin .copy => match c.argTypes.toList with
     | [t, _] => match P.underlying t with
       | some (.slice e) => match Ai P e with
         | some sz => if 0 < sz then ins (.cpy sz) (A1 c.args.toList) else none
         | _ => none
       | _ => none
     | _ => none
   | .builtin .clear => match c.argTypes.toList with
     | [t] => match P.underlying t with
       | some (.slice e) => match Ai P e, Df P e with
         | some sz, some z => if 0 < sz ∧ z.length = sz then ins (.clr sz z) (A1 c.args.toList) else none
         | _, _ => none
       | _ => none
     | _ => none
   | .builtin .max => if c.args.size = 2 then ins .mx (A1 c.args.toList) else none
   | .builtin .min => if c.args.size = 2 then ins .mn (A1 c.args.toList) else none
   | _ => none
 | _ => none
def Atn (P : Program) (o : Oper) : Bool := match o.op with
 | .call c => match c.callee with
   | .builtin .copy => true
   | .builtin .clear => true
   | .builtin .append => match c.argTypes.toList with
     | [_, u] => Ah9 P u
     | _ => false
   | .value (.func f) => match P.funcs[f]? with
     | some fn => fn.body.isNone
     | none => false
   | _ => false
 | _ => false
def Z1 (o : Oper) : Bool := match o.op with
 | .slice _ _ _ _ _ => true
 | _ => false
def A1w (ops : Array Oper) (x : Operand) : Bool := match x with
 | .tmp d => ops.toList.any fun o => Z1 o && o.dst == some d
 | _ => false
def Beg (ops : Array Oper) : Bool := ops.toList.any fun o => match o.op with
 | .call c => match c.callee, c.args.toList with
   | .builtin .append, [x, y] => A1w ops x && A1w ops y
   | _, _ => false
 | _ => false
def A1s (P : Program) (ops : Array Oper) : Bool := ops.toList.any (Atn P) || Beg ops || (match ops.toList.getLast? with
 | some o => Z1 o
 | none => false)
def A8y (ops : Array Oper) : Bool := (ops.toList.any fun o => match o.op with
 | .buildSlice _ _ _ => true
 | _ => false) && ops.toList.any fun o => match o.op with
 | .convert _ _ _ => true
 | _ => false
def A1x (ops : Array Oper) : Bool := A8y ops || ops.toList.any fun o => match o.op, o.dst with
 | .assign _, some d => ops.toList.any fun q => match q.op with
   | .move (.tmp e) => d == e
   | _ => false
 | _, _ => false
def Mz (v x : Bool) : Kd → Kd
 | .slc sz lo hi false => if v then .slv sz lo hi else if x && hi && !lo then .slx sz else .slc sz lo hi false
 | .slc sz true true true => if v then .slx sz else .slc sz true true true
 | .s2b => if x then .s2bD else .s2b
 | k => k
def A8e (v x : Bool) (i : I) : I := ⟨Mz v x i.k, i.x, i.d, i.g⟩
def Aia (P : Program) (N : Nat) (ops : Array Oper) (o : Oper) : Option I :=
 if o.dst.any (fun d => decide (N ≤ d) || decide (Gg ≤ d)) then none else
 match J7 P o with
 | some (k, x) => match o.guard with
   | none => some ⟨k, x, o.dst, none⟩
   | some (j, w) => match (ops[j]?).bind (·.dst) with
     | some t => some ⟨k, x, o.dst, some (t, w)⟩
     | none => none
 | none => none
def Lo (P : Program) (N : Nat) (ops : Array Oper) (o : Oper) : Option I := (Aia P N ops o).map (A8e (A1s P ops) (A1x ops))
def R0 (o : Oper) : List Nat := (o.after.toList.filter (Region.binds .any)).map (·.on)
def anc (ops : Array Oper) : Nat → Nat → List Nat
 | 0, _ => []
 | n + 1, j => match ops[j]? with
   | some o => R0 o ++ ((R0 o).map (anc ops n)).flatten
   | none => []
def nd : Kd → Bool
 | .eqn _ => true
 | .cap => true
 | .slx _ => true
 | .yv => true
 | .clr _ _ => true
 | .rgs => true
 | .nxs => true
 | _ => false
def Iw : Kd → Nat
 | .mv | .pick | .bld _ | .bldV _ _ | .bin _ | .binB _ | .eqv _ _ | .un _ | .cvI _ | .r2s | .s2bD | .cvS | .sls _ _ | .fa _ | .iaA _ _ | .iaC _ | .fld _ _ _ | .ixA _ _ _ | .ixS | .ext _ | .lenS | .mx | .mn | .mkf _ | .nilc => 0
 | .sto _ | .app _ _ | .cap | .cpy _ | .slx _ | .clr _ _ | .nxs => 2
 | _ => 1
def Bad : Kd → Bool
 | .new _ | .box | .bsl _ | .s2b | .mks _ _ | .call _ | .callv | .app _ _ | .apz _ _ _ | .slx _ | .rgs => true
 | _ => false
def Aiv : SV → Bool
 | .pv _ => true
 | .vec _ _ => true
 | _ => false
def Gi : Opd → Bool
 | .t _ => true
 | .c (.pv _) => true
 | .c (.vec _ _) => true
 | .c (.agg l) => l.all Aiv
 | .c (.fn _ []) => true
 | _ => false
def news (l : List I) : List Nat := (l.filter fun i => Bad i.k).filterMap (·.d)
def D9 (i : I) : List Nat := (i.x.filterMap fun | .t n => some n | _ => none) ++ (match i.g with
 | some (j, _) => [j]
 | none => [])
def Ai5 (i j : I) : Bool := (match i.d with
 | some d => !(D9 j).contains d && decide (j.d ≠ some d)
 | none => true) && (match j.d with
 | some d => !(D9 i).contains d
 | none => true) && decide (Iw i.k + Iw j.k ≤ 2) && (Iw i.k != 2 || Iw j.k == 0) && (Iw j.k != 2 || Iw i.k == 0)
def H7 (ops : Array Oper) (l : List I) (j : Nat) : Bool := match l[j]? with
 | some i => (match i.k with
   | .bsl _ => true
   | .call _ => true
   | _ => false) && (((List.range j).all fun a => (anc ops 6 j).contains a) && ((List.range l.length).all fun k => decide (k ≤ j) || (anc ops 6 k).contains j))
 | none => false
def Zs (ops : Array Oper) (l : List I) (j : Nat) : Bool := match l[j]? with
 | some i => (match i.k with
   | .call _ => true
   | _ => false) && ((List.range l.length).all fun k => decide (k = j) || (anc ops 6 j).contains k || (anc ops 6 k).contains j || match l[k]? with
     | some z => Iw z.k == 0
     | none => true)
 | none => false
def Ym (ops : Array Oper) (l : List I) (j : Nat) (i : I) : Nat := if Zs ops l j then 2 else Iw i.k
def clA (ops : Array Oper) (l : List I) (j : Nat) (i : I) : Nat := if H7 ops l j then 3 else Ym ops l j i
def Av2 (ops : Array Oper) (l : List I) : Bool :=
 I0 (l.filterMap (·.d)) && l.all (fun i => !nd i.k) && (news l).all (fun d => decide (d < 1000000000)) && (List.range l.length).all fun j => match ops[j]?, l[j]? with
  | some o, some y => (R0 o).all (fun e => decide (e < j)) && y.x.all Gi && (List.range j).all fun i => (match l[i]? with
    | some z => (R0 o).contains i || H7 ops l i || H7 ops l j || Ai5 z y || (anc ops 4 j).contains i
    | none => false)
  | _, _ => false
def Xx (ops : Array Oper) (l : List I) (D : List Nat) (j : Nat) : List Nat := match ops[j]? with
 | some o => D.filter fun d => !(R0 o).any fun k => match l[k]? with
   | some i => decide (i.d = some d)
   | none => false
 | none => D
def Pb (ops : Array Oper) (l : List I) (D : List Nat) : Nat → List I → List (I × Nat × List Nat)
 | _, [] => []
 | k, i :: r => (i, clA ops l k i, Xx ops l D k) :: Pb ops l D (k + 1) r
def Hp : Kd → Nat
 | .call _ => 2
 | .callv => 2
 | .bsl _ => 2
 | k => Iw k
def S2 (ops : Array Oper) (i j : Nat) : Bool := (anc ops 8 j).contains i
def V6 (i j : I) : Bool := (match i.d with
 | some d => !(D9 j).contains d && decide (j.d ≠ some d)
 | none => true) && (match j.d with
 | some d => !(D9 i).contains d
 | none => true)
def K8 (i j : I) : Bool := Hp i.k != 0 && Hp j.k != 0 && (Hp i.k == 2 || Hp j.k == 2)
def Abu (ops : Array Oper) (l : List I) (j : Nat) : List Nat := match l[j]? with
 | some z => (List.range j).filter fun i => !S2 ops i j && match l[i]? with
   | some y => K8 y z
   | none => false
 | none => []
def Ai7 (ops : Array Oper) (l : List I) : Bool :=
 I0 (l.filterMap (·.d)) && l.all (fun i => !nd i.k) && (news l).all (fun d => decide (d < 1000000000)) && (List.range l.length).all fun j => match ops[j]?, l[j]? with
  | some o, some y => (R0 o).all (fun e => decide (e < j)) && y.x.all Gi && (List.range j).all fun i => (match l[i]? with
    | some z => S2 ops i j || V6 z y
    | none => false)
  | _, _ => false
def Av3 (ops : Array Oper) (l : List I) (D : List Nat) : Nat → List I → List (I × Nat × List Nat × List Nat × Nat)
 | _, [] => []
 | k, i :: r => (i, Hp i.k, Xx ops l D k, Abu ops l k, k) :: Av3 ops l D (k + 1) r
def yvI (i : I) : I := match i.k with
 | .callv => ⟨.yv, i.x, i.d, i.g⟩
 | _ => i
def Bn (P : Program) (N : Nat) : Code → Option C
 | .skip => some .skip
 | .region _ ops drawn => match Au (ops.toList.map (Lo P N ops)) with
   | some l => if drawn then (if Av2 ops l then some (if l.any (fun i => match i.k with | .slc _ _ _ _ => true | _ => false) then .anyF (news l) (Pb ops l (news l) 0 l) else .any (news l) (Pb ops l (news l) 0 l)) else if Ai7 ops l then some (.anyP (news l) (Av3 ops l (news l) 0 l)) else some .bad) else some (.ops (l.map yvI))
   | none => some .bad
 | .seq a b => match Bn P N a, Bn P N b with
   | some a, some b => some (.seq a b)
   | _, _ => none
 | .cond c a b => match Bu c, Bn P N a, Bn P N b with
   | some c, some a, some b => some (.ite c a b)
   | _, _, _ => none
 | .block id a => (Bn P N a).map (.block id)
 | .loop a => (Bn P N a).map .loop
 | .exit id => some (.exit id)
 | .ret => some .ret
 | .scope a => Bn P N a
 | .label _ => some .skip
 | .rangeFunc g ps a b => match Bu g, Bn P N a, Bn P N b with
   | some g, some a, some b => if ps.toList.all (fun p => decide (p < N) && decide (p < Gg)) then some (.rng g ps.toList a b) else some .bad
   | _, _, _ => none
 | _ => some .bad
end Go.Proofs.YthiamojjhdcegaaGreat.Fw
namespace Go.Proofs.YthiamojjhdcegaaGreat.Fw
variable (E : Env)
def Un (d : Option Nat) (l : List I) (Q : C3) (s : FS) : KK := fun x u => sxL E l Q (s.apply d x u)
def Kr (D : List Nat) (c : Nat) (d : Option Nat) (l : List (I × Nat × List Nat)) (Q : C3) (s : FS) : KK := fun x u => okA D c (d.getD 1000000000) x u ∧ sxA E l Q (s.apply d x u)
def I1 (D : List Nat) (c : Nat) (x : SV) (w : Bool) (k : Kd) (ops : List Opd) (d : Option Nat) (l : List (I × Nat × List Nat)) (Q : C3) (s : FS) : Prop :=
 Eu x w (body E k ops (d.getD 0) s (Kr E D c d l Q s)) (Kr E D c d l Q s (.tup []) [])
def Ajw (b : C) (Q : C3) : C3 := Ajv (sx E b Q) Q
def Anw (x : SV) (a b : C) (Q : C3) (s : FS) : Prop := match x with
 | .pv (.b p) => if p = true then sx E a Q s else sx E b Q s
 | _ => False
def K6 (x : SV) (w : Bool) (k : Kd) (ops : List Opd) (d : Option Nat) (l : List I) (Q : C3) (s : FS) : Prop :=
 Eu x w (body E k ops (d.getD 0) s (Un E d l Q s)) (sxL E l Q (s.apply d (.tup []) []))
theorem A2f (f cap args s d K) : yvK E (.fn (.func f) cap :: args) s d K = N4 E f (args ++ cap) s.h d K := (rfl)
theorem Ao8 (f cap args h d K) : J3 E (.fn (.func f) cap :: args) h d K = N4 E f (args ++ cap) h d K := (rfl)
theorem Aph (n cs K) : Ku n (some cs) K = (cs.length = n ∧ K (.vec n cs) []) := (rfl)
theorem Avi (d sz es u K) : N5 d sz (some (es, u)) K = ((∀ c ∈ es, c.length = sz) ∧ K (.os d) (u ++ [.new d (.row sz es)])) := (rfl)
theorem Aut (g ks a b K) : Qf g ks (some a) (some b) K = (Ef ks a ∧ Ef ks b ∧ K (.pv (.b (g ^^ Yl a b))) []) := (rfl)
theorem Ate (es K) : Hx (some es) K = K (.pv (.i .i64 es.length)) [] := (rfl)
theorem Avu (es K) : Mx (some es) K = Yk es K := (rfl)
theorem At1 (sz' es sz j n K) : Qc (some (.row sz' es)) sz j n K = (0 ≤ j ∧ j < es.length ∧ sz = sz' ∧ K (.pr n sz j.toNat 0) []) := (rfl)
theorem Bam (x off size ag K) : ldV (some (.var x)) off size ag K = M5 x off size ag K := (rfl)
theorem Ban (x off size ag K) : ldS (some (.var x)) off size ag K = LoadK x.cells? off size ag K := (rfl)
theorem Bao (sz' sz es i off size ag K) : ldR (some (.row sz es)) sz' i off size ag K = (sz' = sz ∧ LoadK es[i]? off size ag K) := (rfl)
theorem A4a (a b) : Pf (some a) (some b) = some (a ++ b) := (rfl)
theorem A8m (x n off size y K) : stV (some (.var x)) n off size y K = (y.width = size ∧ y.flatB = true ∧ T6 n x off size y K) := (rfl)
theorem Amb (n w e size a b K) : H8 n w e size (some a) (some b) K = (e + size ≤ w ∧ K .dead [.upd n (.var (.vec w (splice a e b)))]) := (rfl)
theorem A8n (x n off size y K) : stS (some (.var x)) n off size y K = (y.width = size ∧ y.flatB = true ∧ H8 n x.width off size x.cells? y.cells? K) := (rfl)
theorem Aqo (ys n sz' i off size es K) : Sq (some ys) n sz' i off size es K = (i < es.length ∧ off + size ≤ sz' ∧ K .dead [.upd n (.row sz' (es.set i (splice (es.getD i []) off ys)))]) := (rfl)
theorem A8o (sz' es n sz i off size y K) : stR (some (.row sz' es)) n sz i off size y K = (y.width = size ∧ y.flatB = true ∧ sz = sz' ∧ Sq y.cells? n sz' i off size es K) := (rfl)
theorem Axh (l n w off size a b K) : T7 (some l) n w off size a b K = K .dead [.upd n (.var (.agg l))] := (rfl)
theorem Axi (n w off size a b K) : T7 none n w off size a b K = H8 n w off size a b K := (rfl)
theorem At7 (a u b v) : Tl (some (a, u)) (some (b, v)) = some (a :: b, u ++ v) := (rfl)
theorem A0h (sz es) : G8 (some (.row sz es)) = some es := (rfl)
theorem Av0 (sz' es ys z d sz bytes n K) : Qn (some (.row sz' es)) (some ys) z d sz bytes n K = (sz = sz' ∧ (ys = [] ∨ z = sz) ∧ (es.length + ys.length) * bytes ≤ 70368744177664 ∧ K (.os d) [.del n, .new d (.row sz (es ++ ys))]) := (rfl)
theorem A1b (z' es ys z d sz bytes K) : Yc z' es (some ys) z d sz bytes K = ((ys = [] → es = []) ∧ (es = [] ∨ z' = sz) ∧ (ys = [] ∨ z = sz) ∧ (es.length + ys.length) * bytes ≤ 70368744177664 ∧ K (.os d) [.new d (.row sz (es ++ ys))]) := (rfl)
theorem Avb (d l Q s x u) : Un E d l Q s x u = sxL E l Q (s.apply d x u) := (rfl)
theorem Axd (Q s) : sxL E [] Q s = Q .normal s := (rfl)
theorem Aqk (k x d l Q s) : sxL E (⟨k, x, some d, none⟩ :: l) Q s = body E k x d s (Un E (some d) l Q s) := (rfl)
theorem Al5 (k x l Q s) : sxL E (⟨k, x, none, none⟩ :: l) Q s = body E k x 0 s (Un E none l Q s) := (rfl)
theorem Al4 (k x d j w l Q s) : sxL E (⟨k, x, d, some (j, w)⟩ :: l) Q s = K6 E (s.t j) w k x d l Q s := (rfl)
theorem An8 (k x d l Q s) : K6 E (.pv (.b true)) true k x (some d) l Q s = body E k x d s (Un E (some d) l Q s) := by simp [K6, Eu]
theorem An9 (k x d l Q s) : K6 E (.pv (.b true)) false k x d l Q s = sxL E l Q (s.apply d (.tup []) []) := by simp [K6, Eu]
theorem Aoa (k x d l Q s) : K6 E (.pv (.b false)) true k x d l Q s = sxL E l Q (s.apply d (.tup []) []) := by simp [K6, Eu]
theorem Aob (k x d l Q s) : K6 E (.pv (.b false)) false k x (some d) l Q s = body E k x d s (Un E (some d) l Q s) := by simp [K6, Eu]
theorem At4 (w k x d l Q s) : K6 E (.tup []) w k x d l Q s = sxL E l Q (s.apply d (.tup []) []) := (rfl)
theorem Aw4 (b Q s) : Ajw E b Q .normal s = sx E b Q s := (rfl)
theorem Aw5 (b Q i s) : Ajw E b Q (.exit i) s = Q (.exit i) s := (rfl)
theorem Aw3 (b Q s) : Ajw E b Q .ret s = Q .ret s := (rfl)
theorem Azm (i Q s) : Uh i Q .normal s = Q .normal s := (rfl)
theorem Azl (i Q s) : Uh i Q .ret s = Q .ret s := (rfl)
theorem Azn (i j Q s) : Uh i Q (.exit j) s = if j = i then Q .normal s else Q (.exit j) s := (rfl)
theorem A2v (D l Q s) : sx E (.any D l) Q s = sxA E.reg l Q (killD D s) := (rfl)
theorem Axb (D l Q s) : sx E (.anyF D l) Q s = A7o E.reg D l Q s := (rfl)
theorem Anv (s) : killD [] s = s := (rfl)
theorem Ah8 (d D s) : killD (d :: D) s = killD D (s.kill d) := (rfl)
theorem Avc (D c d l Q s x u) : Kr E D c d l Q s x u = (okA D c (d.getD 1000000000) x u ∧ sxA E l Q (s.apply d x u)) := (rfl)
theorem Axe (Q s) : sxA E [] Q s = Q .normal s := (rfl)
theorem Aql (D c k x d l Q s) : sxA E ((⟨k, x, some d, none⟩, c, D) :: l) Q s = body E k x d s (Kr E D c (some d) l Q s) := (rfl)
theorem Al7 (D c k x l Q s) : sxA E ((⟨k, x, none, none⟩, c, D) :: l) Q s = body E k x 0 s (Kr E D c none l Q s) := (rfl)
theorem Al6 (D c k x d j w l Q s) : sxA E ((⟨k, x, d, some (j, w)⟩, c, D) :: l) Q s = I1 E D c (s.t j) w k x d l Q s := (rfl)
theorem Aoc (D c k x d l Q s) : I1 E D c (.pv (.b true)) true k x (some d) l Q s = body E k x d s (Kr E D c (some d) l Q s) := by simp [I1, Eu]
theorem Aod (D c k x d l Q s) : I1 E D c (.pv (.b true)) false k x d l Q s = Kr E D c d l Q s (.tup []) [] := by simp [I1, Eu]
theorem Aof (D c k x d l Q s) : I1 E D c (.pv (.b false)) true k x d l Q s = Kr E D c d l Q s (.tup []) [] := by simp [I1, Eu]
theorem Aog (D c k x d l Q s) : I1 E D c (.pv (.b false)) false k x (some d) l Q s = body E k x d s (Kr E D c (some d) l Q s) := by simp [I1, Eu]
theorem At5 (D c w k x d l Q s) : I1 E D c (.tup []) w k x d l Q s = Kr E D c d l Q s (.tup []) [] := (rfl)
theorem A9f (D d x u) : okA D 0 d x u = (noD d x D ∧ u = []) := (rfl)
theorem A9e (D d x u) : okA D 1 d x u = (noD d x D ∧ Hw D d u) := (rfl)
theorem A9d (D d x u) : okA D 2 d x u = (noD d x D ∧ Er D d u) := (rfl)
theorem Ayw (d x) : noD d x [] = True := (rfl)
theorem Asq (d x e D) : noD d x (e :: D) = ((if e = d then True else x.kill e = x) ∧ noD d x D) := (rfl)
theorem Asv (d x) : Pg d x [] = True := (rfl)
theorem Ani (d x e D) : Pg d x (e :: D) = ((if e = d then True else x.kill e = x) ∧ Pg d x D) := (rfl)
theorem A9c (D d x u) : okA D 3 d x u = (noD d x D ∧ Dr D d u) := (rfl)
theorem Ane (D d) : Dr D d [] = True := (rfl)
theorem Anf (D d n b u) : Dr D d (.new n b :: u) = (n = d ∧ n ∈ D ∧ Pg d b D ∧ Dr D d u) := (rfl)
theorem Anh (D d n u) : Dr D d (.del n :: u) = Dr D d u := (rfl)
theorem Ahi (D d) : Hw D d [] = True := (rfl)
theorem Ahj (D d n b) : Hw D d [.new n b] = (n = d ∧ n ∈ D ∧ Pg d b D) := (rfl)
theorem Ass (D d) : Er D d [] = True := (rfl)
theorem Ast (D d n b u) : Er D d (.new n b :: u) = (n = d ∧ n ∈ D ∧ Pg d b D ∧ Er D d u) := (rfl)
theorem Asr (D d n b u) : Er D d (.upd n b :: u) = (Pg d b D ∧ Er D d u) := (rfl)
theorem Asu (D d n u) : Er D d (.del n :: u) = Er D d u := (rfl)
theorem A2r (a b Q s) : sx E (.seq a b) Q s = sx E a (Ajw E b Q) s := (rfl)
theorem A2t (l Q s) : sx E (.ops l) Q s = sxL E l Q s := (rfl)
theorem Aqi (i a Q s) : sx E (.block i a) Q s = sx E a (Uh i Q) s := (rfl)
theorem Aw9 (i Q s) : sx E (.exit i) Q s = Q (.exit i) s := (rfl)
theorem A2s (Q s) : sx E .ret Q s = Q .ret s := (rfl)
theorem Aw7 (Q s) : sx E .skip Q s = Q .normal s := (rfl)
theorem Aw8 (a Q s) : sx E (.loop a) Q s = E.loop a Q s := (rfl)
theorem A2u (c a b Q s) : sx E (.ite c a b) Q s = Anw E (s.ev c) a b Q s := (rfl)
theorem A5k (a b Q s) : Anw E (.pv (.b true)) a b Q s = sx E a Q s := (rfl)
theorem A5m (a b Q s) : Anw E (.pv (.b false)) a b Q s = sx E b Q s := by simp [Anw]
theorem A1d (s d x u) : FS.apply s (some d) x u = (s.hup u).set d x := (rfl)
theorem A1e (s x u) : FS.apply s none x u = s.hup u := (rfl)
theorem Azu (s) : FS.hup s [] = s := (rfl)
theorem Azv (s n b u) : FS.hup s (.new n b :: u) = ((s.kill n).seth n (some b)).hup u := (rfl)
theorem Azt (s n b u) : FS.hup s (.upd n b :: u) = (s.seth n (some b)).hup u := (rfl)
theorem Azw (s n u) : FS.hup s (.del n :: u) = (s.seth n none).hup u := (rfl)
theorem Auc (n v) : Yz n v [] = [] := (rfl)
theorem Aok (n v j x l) : Yz n v ((j, x) :: l) = (j, x.frz n v) :: Yz n v l := (rfl)
theorem Aud (n v) : Mn n v [] = [] := (rfl)
theorem Aom (n v j x l) : Mn n v ((j, some x) :: l) = (if j = n then (j, none) else (j, some (x.frz n v))) :: Mn n v l := (rfl)
theorem Aol (n v j l) : Mn n v ((j, none) :: l) = (j, none) :: Mn n v l := (rfl)
theorem Beb (n v x) : SV.frz n v (.pv x) = .pv x := (rfl)
theorem Bba (n v m x) : SV.frz n v (.vec m x) = .vec m x := (rfl)
theorem Bec (n v a b c d) : SV.frz n v (.pi a b c d) = .pi a b c d := (rfl)
theorem f_p (n v m o) : SV.frz n v (.p m o) = .p m o := (rfl)
theorem Bed (n v m) : SV.frz n v (.os m) = if n = m then .pv v else .os m := (rfl)
theorem Bbc (n v l) : SV.frz n v (.agg l) = .agg (SV.frzL n v l) := (rfl)
theorem Bbb (n v l) : SV.frz n v (.tup l) = .tup (SV.frzL n v l) := (rfl)
theorem A6b (n v) : SV.frzL n v [] = [] := (rfl)
theorem Az8 (n v x l) : SV.frzL n v (x :: l) = SV.frz n v x :: SV.frzL n v l := (rfl)
theorem A57 (n v x) : Blk.frz n v (.var x) = .var (x.frz n v) := (rfl)
theorem A58 (n v a b) : Blk.frz n v (.row a b) = .row a b := (rfl)
theorem Bbe (t h n) : (mk t h).ev (.t n) = lk .dead n t := (rfl)
theorem Bde (t h n) : (mk t h).t n = lk .dead n t := (rfl)
theorem Bbf (s x) : FS.ev s (.c x) = x := (rfl)
theorem Baz (t h n) : (mk t h).h n = lk none n h := (rfl)
theorem A46 {α} (d : α) (k) : lk d k [] = d := (rfl)
theorem Ay7 {α} (d : α) (k j x l) : lk d k ((j, x) :: l) = if k = j then x else lk d k l := (rfl)
theorem Ant (n) : Nu n [] = [] := (rfl)
theorem Ah4 (n j x l) : Nu n ((j, x) :: l) = (j, x.kill n) :: Nu n l := (rfl)
theorem Anu (n) : Jy n [] = [] := (rfl)
theorem Ah6 (n j x l) : Jy n ((j, some x) :: l) = (j, some (x.kill n)) :: Jy n l := (rfl)
theorem Ah5 (n j l) : Jy n ((j, none) :: l) = (j, none) :: Jy n l := (rfl)
theorem Bdz (n x) : SV.kill n (.pv x) = .pv x := (rfl)
theorem Baq (n m x) : SV.kill n (.vec m x) = .vec m x := (rfl)
theorem Bd2 (n a b c d) : SV.kill n (.pi a b c d) = .pi a b c d := (rfl)
theorem k_p (n m o) : SV.kill n (.p m o) = if n = m then .dead else .p m o := (rfl)
theorem Bd0 (n m o) : SV.kill n (.ps m o) = if n = m then .dead else .ps m o := (rfl)
theorem Bd1 (n m s i o) : SV.kill n (.pr m s i o) = if n = m then .dead else .pr m s i o := (rfl)
theorem Bd4 (n m) : SV.kill n (.os m) = if n = m then .dead else .os m := (rfl)
theorem Bas (n l) : SV.kill n (.agg l) = .agg (SV.killL n l) := (rfl)
theorem Bar (n l) : SV.kill n (.tup l) = .tup (SV.killL n l) := (rfl)
theorem Bd5 (n f l) : SV.kill n (.fn f l) = .fn f (SV.killL n l) := (rfl)
theorem A5h (n) : SV.killL n [] = [] := (rfl)
theorem Azh (n x l) : SV.killL n (x :: l) = SV.kill n x :: SV.killL n l := (rfl)
theorem A5f (n x) : Blk.kill n (.var x) = .var (x.kill n) := (rfl)
theorem A5g (n a b) : Blk.kill n (.row a b) = .row a b := (rfl)
theorem A0a (s) : Bz s [] = [] := (rfl)
theorem Aur (s x l) : Bz s (x :: l) = s.ev x :: Bz s l := (rfl)
theorem Apg (f x d s K) : body E (.call f) x d s K = N4 E f (Bz s x) s.h d K := (rfl)
theorem A01 (x d s K) : body E .yv x d s K = yvK E (Bz s x) s d K := (rfl)
theorem Ai2 (x d s K) : body E .callv x d s K = J3 E (Bz s x) s.h d K := (rfl)
theorem Beo  (x d s K) : body E (.mv) x d s K = An d s.h (.mv) (Bz s x) K := (rfl)
theorem A7a  (x d s K) : body E (.pick) x d s K = An d s.h (.pick) (Bz s x) K := (rfl)
theorem Bb7 (z) (x d s K) : body E (.new z) x d s K = An d s.h (.new z) (Bz s x) K := (rfl)
theorem Bcl  (x d s K) : body E (.box) x d s K = An d s.h (.box) (Bz s x) K := (rfl)
theorem Bcm (ns) (x d s K) : body E (.bld ns) x d s K = An d s.h (.bld ns) (Bz s x) K := (rfl)
theorem A7d (n z) (x d s K) : body E (.bldV n z) x d s K = An d s.h (.bldV n z) (Bz s x) K := (rfl)
theorem Bck (n) (x d s K) : body E (.bsl n) x d s K = An d s.h (.bsl n) (Bz s x) K := (rfl)
theorem Bep (n a) (x d s K) : body E (.ld n a) x d s K = An d s.h (.ld n a) (Bz s x) K := (rfl)
theorem Bby (n) (x d s K) : body E (.sto n) x d s K = An d s.h (.sto n) (Bz s x) K := (rfl)
theorem Bcn (o) (x d s K) : body E (.bin o) x d s K = An d s.h (.bin o) (Bz s x) K := (rfl)
theorem Bcf (g ks) (x d s K) : body E (.eqv g ks) x d s K = An d s.h (.eqv g ks) (Bz s x) K := (rfl)
theorem Bem (o) (x d s K) : body E (.un o) x d s K = An d s.h (.un o) (Bz s x) K := (rfl)
theorem Bch (k) (x d s K) : body E (.cvI k) x d s K = An d s.h (.cvI k) (Bz s x) K := (rfl)
theorem A7e (o) (x d s K) : body E (.binB o) x d s K = An d s.h (.binB o) (Bz s x) K := (rfl)
theorem A7c  (x d s K) : body E (.lenS) x d s K = An d s.h (.lenS) (Bz s x) K := (rfl)
theorem Bb3  (x d s K) : body E (.s2b) x d s K = An d s.h (.s2b) (Bz s x) K := (rfl)
theorem Bco  (x d s K) : body E (.b2s) x d s K = An d s.h (.b2s) (Bz s x) K := (rfl)
theorem Bb8 (z b) (x d s K) : body E (.mks z b) x d s K = An d s.h (.mks z b) (Bz s x) K := (rfl)
theorem Bb2 (z) (a b c) (x d s K) : body E (.slc z a b c) x d s K = An d s.h (.slc z a b c) (Bz s x) K := (rfl)
theorem Bb1 (a b) (x d s K) : body E (.sls a b) x d s K = An d s.h (.sls a b) (Bz s x) K := (rfl)
theorem Beq (n) (x d s K) : body E (.fa n) x d s K = An d s.h (.fa n) (Bz s x) K := (rfl)
theorem Bcc (n) (x d s K) : body E (.iaS n) x d s K = An d s.h (.iaS n) (Bz s x) K := (rfl)
theorem Bcd (a b) (x d s K) : body E (.iaA a b) x d s K = An d s.h (.iaA a b) (Bz s x) K := (rfl)
theorem Bcb (a b c) (x d s K) : body E (.ixA a b c) x d s K = An d s.h (.ixA a b c) (Bz s x) K := (rfl)
theorem Bca  (x d s K) : body E (.ixS) x d s K = An d s.h (.ixS) (Bz s x) K := (rfl)
theorem Bce (n) (x d s K) : body E (.ext n) x d s K = An d s.h (.ext n) (Bz s x) K := (rfl)
theorem Bb9  (x d s K) : body E (.len) x d s K = An d s.h (.len) (Bz s x) K := (rfl)
theorem Bcq (a b) (x d s K) : body E (.app a b) x d s K = An d s.h (.app a b) (Bz s x) K := (rfl)
theorem Ben  (x d s K) : body E (.mx) x d s K = An d s.h (.mx) (Bz s x) K := (rfl)
theorem A7b  (x d s K) : body E (.nilc) x d s K = An d s.h (.nilc) (Bz s x) K := (rfl)
theorem Bdr (d h x K) : An d h .mv [x] K = K x [] := (rfl)
theorem A4x (d h c x y K) : An d h .pick [c, x, y] K = Ki c x y K := (rfl)
theorem A33 (x y K) : Ki (.pv (.b true)) x y K = K x [] := (rfl)
theorem A34 (x y K) : Ki (.pv (.b false)) x y K = K y [] := (rfl)
theorem A9p (d h z K) : An d h (.new z) [] K = K (.p d 0) [.new d (.var z)] := (rfl)
theorem A91 (d h x K) : An d h .box [x] K = (x.flatB = true ∧ K (.p d 0) [.new d (.var (x.kill d))]) := (rfl)
theorem A92 (d h ns l K) : An d h (.bld ns) l K = (Jk l = ns ∧ SV.flatBL l = true ∧ K (.agg (M1 l)) []) := (rfl)
theorem A4z (d h n z l K) : An d h (.bldV n z) l K = (Y4 z l ∧ Ku n (SV.cellsL? l) K) := (rfl)
theorem A90 (d h n l K) : An d h (.bsl n) l K = N5 d n (J0 h l) K := (rfl)
theorem Bds (d h n a x K) : An d h (.ld n a) [x] K = Hq h n a x K := (rfl)
theorem A9g (d h n x y K) : An d h (.sto n) [x, y] K = J8 h n x y K := (rfl)
theorem A93 (d h o x y K) : An d h (.bin o) [x, y] K = N6 o x y K := (rfl)
theorem A9w (d h g ks x y K) : An d h (.eqv g ks) [x, y] K = (x.isAg = true ∧ y.isAg = true ∧ Qf g ks x.cells? y.cells? K) := (rfl)
theorem Bdp (d h o x K) : An d h (.un o) [x] K = V2 o x K := (rfl)
theorem A2k (x K) : V2 .not (.pv (.b x)) K = K (.pv (.b !x)) [] := (rfl)
theorem A9x (d h k j n K) : An d h (.cvI k) [.pv (.i j n)] K = K (.pv (.i k (k.wrap n))) [] := (rfl)
theorem A9l (d h l K) : An d h .s2b [.pv (.s l)] K = K (.os d) [.new d (.row 1 (A7 l))] := (rfl)
theorem Asn (d h n K) : An d h .b2s [.os n] K = Mx (G8 (h n)) K := (rfl)
theorem A40 (d h o x y K) : An d h (.binB o) [.pv (.b x), .pv (.b y)] K = binB o x y K := (rfl)
theorem A9q (d h z b j l k c K) : An d h (.mks z b) [.pv (.i j l), .pv (.i k c)] K = (0 ≤ l ∧ l ≤ c ∧ c * b ≤ 70368744177664 ∧ K (.os d) [.new d (.row z.length (List.replicate l.toNat z))]) := (rfl)
theorem A9k (d h z a b c x l K) : An d h (.slc z a b c) (x :: l) K = Pd x h z a b c l (C1 h x) K := (rfl)
theorem A9j (d h a b s l K) : An d h (.sls a b) (.pv (.s s) :: l) K = Ady b s (Et a 0 l) K := (rfl)
theorem Bdt (d h n a K) : An d h (.fa n) [a] K = Lr n a K := (rfl)
theorem Bea (k n o K) : Lr k (.p n o) K = K (.p n (o + k)) [] := (rfl)
theorem Ba7 (k n z i o K) : Lr k (.pr n z i o) K = K (.pr n z i (o + k)) [] := (rfl)
theorem Ba8 (k n z i o K) : Lr k (.pi n z i o) K = K (.pi n z i (o + k)) [] := (rfl)
theorem A9t (d h n a k j K) : An d h (.iaS n) [a, .pv (.i k j)] K = Jz h n j a K := (rfl)
theorem A5r (h n j f m es K) : Jz h n j (.pv (.sl f m es)) K = (0 ≤ j ∧ j < es.length ∧ n = m ∧ K (.pi n es j.toNat 0) []) := (rfl)
theorem A5s (h n j m K) : Jz h n j (.os m) K = Qc (h m) n j m K := (rfl)
theorem Bdw (h z a n o K) : Hq h z a (.p n o) K = ldV (h n) o z a K := (rfl)
theorem Baj (h z a n o K) : Hq h z a (.ps n o) K = ldS (h n) o z a K := (rfl)
theorem Bak (h z a n m i o K) : Hq h z a (.pr n m i o) K = ldR (h n) m i o z a K := (rfl)
theorem Bal (h z a m es i o K) : Hq h z a (.pi m es i o) K = LoadK es[i]? o z a K := (rfl)
theorem Aze (x off size ag K) : M5 x off size ag K = Xd (cut x.segs off size) ag x.cells? off size K := (rfl)
theorem As0 (n cs c off size K) : Xd (some [.vec n cs]) true c off size K = K (.vec n cs) [] := (rfl)
theorem As1 (x c off size K) : Xd (some [.pv x]) false c off size K = K (.pv x) [] := (rfl)
theorem Ay1 (x c off size K) : Xd (some [.os x]) false c off size K = K (.os x) [] := (rfl)
theorem As2 (x y l c off size K) : Xd (some (x :: y :: l)) true c off size K = K (.agg (x :: y :: l)) [] := by cases x <;> rfl
theorem Anj (ag c off size K) : Xd none ag c off size K = LoadK c off size ag K := (rfl)
theorem A0k (o s) : cut [] o s = if o = 0 ∧ s = 0 then some [] else none := (rfl)
theorem Au7 (x l o s) : cut (x :: l) o s = if o = 0 then if s = 0 then some [] else if x.width ≤ s then (cut l 0 (s - x.width)).map (x :: ·) else none else if x.width ≤ o then cut l (o - x.width) s else none := (rfl)
theorem Aqs (x l o s y) : spl (x :: l) o s y = if o = 0 then if s = 0 then some (y ++ x :: l) else if x.width ≤ s then spl l 0 (s - x.width) y else none else if x.width ≤ o then (spl l (o - x.width) s y).map (x :: ·) else none := (rfl)
theorem Bdc (x) : SV.width (.pv x) = 1 := (rfl)
theorem A8q (x) : SV.segs (.pv x) = [.pv x] := (rfl)
theorem Bdd (x) : SV.width (.os x) = 1 := (rfl)
theorem A8r (x) : SV.segs (.os x) = [.os x] := (rfl)
theorem A79 (n cs) : SV.width (.vec n cs) = n := (rfl)
theorem A3h (n cs) : SV.segs (.vec n cs) = [.vec n cs] := (rfl)
theorem A8a (l) : SV.width (.agg l) = SV.widthL l := (rfl)
theorem A3i (l) : SV.segs (.agg l) = l := (rfl)
theorem A2i  : SV.widthL [] = 0 := (rfl)
theorem Awv (x l) : SV.widthL (x :: l) = x.width + SV.widthL l := (rfl)
theorem Axt  : M1 [] = [] := (rfl)
theorem Aq4 (x l) : M1 (x :: l) = x.segs ++ M1 l := (rfl)
theorem Bei (x) : SV.cells? (.pv x) = some [x] := (rfl)
theorem Bbs (n cs) : SV.cells? (.vec n cs) = some cs := (rfl)
theorem Bbt (l) : SV.cells? (.agg l) = SV.cellsL? l := (rfl)
theorem Bej (l) : SV.cells? (.os l) = none := (rfl)
theorem A6s  : SV.cellsL? [] = some [] := (rfl)
theorem A0z (x l) : SV.cellsL? (x :: l) = Pf x.cells? (SV.cellsL? l) := (rfl)
theorem Bdf (h z n o y K) : J8 h z (.p n o) y K = stV (h n) n o z y K := (rfl)
theorem A8j (h z n o y K) : J8 h z (.ps n o) y K = stS (h n) n o z y K := (rfl)
theorem A8k (h z n m i o y K) : J8 h z (.pr n m i o) y K = stR (h n) n m i o z y K := (rfl)
theorem Axg (n x off size y K) : T6 n x off size y K = if off = 0 ∧ size = x.width then K .dead [.upd n (.var y)] else T7 (spl x.segs off size y.segs) n x.width off size x.cells? y.cells? K := (rfl)
theorem Bd9 (h x) : Xo h (.pv x) = some ([x], []) := (rfl)
theorem Ba1 (h n x) : Xo h (.vec n x) = some (x, []) := (rfl)
theorem Ba2 (h l) : Xo h (.agg l) = (SV.cellsL? l).map fun cs => (cs, []) := (rfl)
theorem A5z (h) : J0 h [] = some ([], []) := (rfl)
theorem Az0 (h x l) : J0 h (x :: l) = Tl (Xo h x) (J0 h l) := (rfl)
theorem Bee (h a b c) : C1 h (.pv (.sl a b c)) = some c := (rfl)
theorem e_s (h l) : C1 h (.pv (.s l)) = some (A7 l) := (rfl)
theorem Bef (h n) : C1 h (.os n) = G8 (h n) := (rfl)
theorem A95 (d h a b x y K) : An d h (.app a b) [x, y] K = H6 h d a b x y K := (rfl)
theorem A7l (h d a b n y K) : H6 h d a b (.os n) y K = Qn (h n) (C1 h y) (Iq h y) d a b n K := (rfl)
theorem A7k (h d a b m es y K) : H6 h d a b (.pv (.sl true m es)) y K = Yc m es (C1 h y) (Iq h y) d a b K := (rfl)
theorem A9u (d h a b x k j K) : An d h (.iaA a b) [x, .pv (.i k j)] K = Ui a b j x K := (rfl)
theorem Bay (a b j n o K) : Ui a b j (.p n o) K = (0 ≤ j ∧ j < a ∧ K (.ps n (o + j.toNat * b)) []) := (rfl)
theorem A9s (d h a b c x k j K) : An d h (.ixA a b c) [x, .pv (.i k j)] K = (0 ≤ j ∧ j < a ∧ x.isAg = true ∧ LoadK x.cells? (j.toNat * b) b c K) := (rfl)
theorem A9r (d h l k j K) : An d h .ixS [.pv (.s l), .pv (.i k j)] K = (0 ≤ j ∧ j < l.length ∧ K (.pv (.i .u8 (l.getD j.toNat 0).toNat)) []) := (rfl)
theorem A9v (d h k l K) : An d h (.ext k) [.tup l] K = Afy (nth l k) K := (rfl)
theorem Asj (d h a b c K) : An d h .len [.pv (.sl a b c)] K = Hx (some c) K := (rfl)
theorem Asl (d h b c K) : An d h .len [.pv (.fs b c)] K = Hx (some c) K := (rfl)
theorem Ask (d h n K) : An d h .len [.os n] K = Hx (G8 (h n)) K := (rfl)
theorem A4y (d h l K) : An d h .lenS [.pv (.s l)] K = K (.pv (.i .i64 l.length)) [] := (rfl)
theorem Bdq (d h x y K) : An d h .mx [x, y] K = Po true x y K := (rfl)
theorem Bdu (k a j b K) : Po true (.pv (.i k a)) (.pv (.i j b)) K = (k = j ∧ K (.pv (.i k (max a b))) []) := (rfl)
theorem Ayt (d h x y K) : An d h .nilc [.p x y] K = K (.p x y) [] := (rfl)
theorem Asi (d h x y z u K) : An d h .nilc [.pr x y z u] K = K (.pr x y z u) [] := (rfl)
theorem Bbx (o k a j b K) : N6 o (.pv (.i k a)) (.pv (.i j b)) K = Pl o k j a b K := (rfl)
theorem Bbw (o a b K) : N6 o (.pv (.s a)) (.pv (.s b)) K = Y3 o a b K := (rfl)
theorem A68 (k j a b K) : Pl .add k j a b K = (k = j ∧ K (.pv (.i k (k.wrap (a + b)))) []) := (rfl)
theorem A60 (k j a b K) : Pl .sub k j a b K = (k = j ∧ K (.pv (.i k (k.wrap (a - b)))) []) := (rfl)
theorem A61 (k j a b K) : Pl .shr k j a b K = (0 ≤ b ∧ K (.pv (.i k (a.fdiv (2 ^ (min b.toNat k.bits))))) []) := (rfl)
theorem A67 (k j a b K) : Pl .eql k j a b K = (k = j ∧ K (.pv (.b (decide (a = b)))) []) := (rfl)
theorem A62 (k j a b K) : Pl .neq k j a b K = (k = j ∧ K (.pv (.b (!decide (a = b)))) []) := (rfl)
theorem A63 (k j a b K) : Pl .lss k j a b K = (k = j ∧ K (.pv (.b (decide (a < b)))) []) := (rfl)
theorem A64 (k j a b K) : Pl .leq k j a b K = (k = j ∧ K (.pv (.b (decide (a ≤ b)))) []) := (rfl)
theorem A65 (k j a b K) : Pl .gtr k j a b K = (k = j ∧ K (.pv (.b (decide (b < a)))) []) := (rfl)
theorem A66 (k j a b K) : Pl .geq k j a b K = (k = j ∧ K (.pv (.b (decide (b ≤ a)))) []) := (rfl)
theorem A6w (a b K) : Y3 .add a b K = (a.length + b.length ≤ 9223372036854775807 ∧ K (.pv (.s (a ++ b))) []) := (rfl)
theorem A6v (a b K) : Y3 .eql a b K = (K (.pv (.b (decide (a = b)))) []) := (rfl)
theorem A6u (a b K) : Y3 .neq a b K = (K (.pv (.b (!decide (a = b)))) []) := (rfl)
theorem A69 (a b K) : binB .neq a b K = K (.pv (.b (!decide (a = b)))) [] := (rfl)
theorem Ba5 (x) : SV.flatB (.pv x) = true := (rfl)
theorem A56 (x y) : SV.flatB (.vec x y) = true := (rfl)
theorem Ba6 (x) : SV.flatB (.os x) = true := (rfl)
theorem A2h  : Jk [] = [] := (rfl)
theorem Awu (x l) : Jk (x :: l) = x.width :: Jk l := (rfl)
theorem A7g (z) : Y4 z [] = True := (rfl)
theorem A09 (z x l) : Y4 z (x :: l) = (x.width = z ∧ Y4 z l) := (rfl)
theorem Bc9 (h a b c) : Iq h (.pv (.sl a b c)) = b := (rfl)
theorem z_s (h l) : Iq h (.pv (.s l)) = 1 := (rfl)
theorem Bda (h n) : Iq h (.os n) = Aeb (h n) := (rfl)
theorem Ax0 (sz es) : Aeb (some (.row sz es)) = sz := (rfl)
theorem A6d (x K) : Afy (some x) K = K x [] := (rfl)
theorem Aso (x l k) : nth (x :: l) k = if k = 0 then some x else nth l (k - 1) := (rfl)
theorem A5p (n l) : SV.isAg (.vec n l) = true := (rfl)
theorem A5q (l) : SV.isAg (.agg l) = true := (rfl)
theorem A59 (l) : SV.flatB (.agg l) = SV.flatBL l := (rfl)
theorem Az6  : SV.flatBL [] = true := (rfl)
theorem Auj (x l) : SV.flatBL (x :: l) = (x.flatB && SV.flatBL l) := (rfl)
theorem A3f (x h z a b c l es K) : Pd x h z a b c l (some es) K = Ad1 x h z b c es (Et a 0 l) K := (rfl)
theorem A3e (x h z b c es i l K) : Ad1 x h z b c es (some (i, l)) K = Ad0 x h z b c es i (Et b es.length l) K := (rfl)
theorem A3d (x h z b c es i j l K) : Ad0 x h z b c es i (some (j, l)) K = Adz x h z b c es i j (Et c es.length l) K := (rfl)
theorem A3c (x h z b c es i j m l K) : Adz x h z b c es i j (some (m, l)) K = (0 ≤ i ∧ i ≤ j ∧ j ≤ m ∧ m ≤ es.length ∧ Ss x (h x.nm) z b c i j m es K) := (rfl)
theorem Axs (f sz es' o z b c i j m es K) : Ss (.pv (.sl f sz es')) o z b c i j m es K = ((es = [] ∨ sz = z) ∧ K (.pv (.sl ((c && decide (m = j)) || (f && !b && !c)) sz ((es.take j.toNat).drop i.toNat))) []) := (rfl)
theorem A99 (n) : SV.nm (.pv n) = 0 := (rfl)
theorem A3a (b s i l K) : Ady b s (some (i, l)) K = Ahd s i (Et b s.length l) K := (rfl)
theorem A29 (s i j l K) : Ahd s i (some (j, l)) K = (0 ≤ i ∧ i ≤ j ∧ j ≤ s.length ∧ K (.pv (.s ((s.take j.toNat).drop i.toNat))) []) := (rfl)
theorem Bax (d l) : Et false d l = some (d, l) := (rfl)
theorem Baw (d k n l) : Et true d (.pv (.i k n) :: l) = some (n, l) := (rfl)
end Go.Proofs.YthiamojjhdcegaaGreat.Fw
namespace Go.Proofs.YthiamojjhdcegaaGreat.Fw
class Th where
 t : Nat
variable [Th]
abbrev View := Nat → Option (Array Value)
def View.le (V V' : View) : Prop := ∀ b c, V b = some c → V' b = some c
def A3 : Value → Prop
 | .agg _ => False
 | .tuple _ => False
 | _ => True
inductive PConc (V : View) : PV → Value → Prop where
 | i (k n) : PConc V (.i k n) (.int k n)
 | b (x) : PConc V (.b x) (.bool x)
 | s (l : List UInt8) : PConc V (.s l) (.string ⟨l.toArray⟩)
 | v (x) (h : A3 x) : PConc V (.v x) x
 | sl (full : Bool) (sz : Nat) (es : List (List PV)) (a : Option Addr) (cap : Nat) (cs : Nat → Nat → Value) (bl off : Nat) (arr : Array Value)
    (hcap : es.length ≤ cap) (hfull : full = true → cap = es.length) (hsz : ∀ c ∈ es, c.length = sz)
    (ha : es ≠ [] → a = some ⟨bl, off, none⟩ ∧ V bl = some arr)
    (hcs : ∀ i j, i < es.length → j < sz → arr[off + (i * sz + j)]? = some (cs i j))
    (hel : ∀ i j c x, es[i]? = some c → c[j]? = some x → PConc V x (cs i j)) : PConc V (.sl full sz es) (.slice a es.length cap)
 | fs (sz : Nat) (es : List (List PV)) (a : Option Addr) (cap : Nat) (cs : Nat → Nat → Value) (bl off : Nat) (arr : Array Value)
    (hcap : es.length ≤ cap) (hsz : ∀ c ∈ es, c.length = sz)
    (ha : es ≠ [] → a = some ⟨bl, off, none⟩ ∧ V bl = some arr ∧ Th.t ≤ bl)
    (hcs : ∀ i j, i < es.length → j < sz → arr[off + (i * sz + j)]? = some (cs i j))
    (hel : ∀ i j c x, es[i]? = some c → c[j]? = some x → PConc V x (cs i j)) : PConc V (.fs sz es) (.slice a es.length cap)
theorem PConc.one {V x v} (h : PConc V x v) : A3 v := by
 cases h <;> simp_all [A3]
theorem PConc.mono {V V' : View} (hV : V.le V') {x v} (h : PConc V x v) : PConc V' x v := by
 induction h with
 | i k n => exact .i k n
 | b x => exact .b x
 | s l => exact .s l
 | v x h => exact .v x h
 | sl full sz es a cap cs bl off arr hcap hfull hsz ha hcs hel ih =>
   exact .sl full sz es a cap cs bl off arr hcap hfull hsz (fun h => ⟨(ha h).1, hV _ _ (ha h).2⟩) hcs ih
 | fs sz es a cap cs bl off arr hcap hsz ha hcs hel ih =>
   exact .fs sz es a cap cs bl off arr hcap hsz (fun h => ⟨(ha h).1, hV _ _ (ha h).2.1, (ha h).2.2⟩) hcs ih
def PCells (V : View) (cs : List PV) (vs : List Value) : Prop := cs.length = vs.length ∧ ∀ (j : Nat) (x : PV), cs[j]? = some x → ∃ v, vs[j]? = some v ∧ PConc V x v
theorem PCells.mono {V V' : View} (hV : V.le V') {cs vs} (h : PCells V cs vs) : PCells V' cs vs :=
 ⟨h.1, fun j x hx => let ⟨v, a, b⟩ := h.2 j x hx; ⟨v, a, b.mono hV⟩⟩
theorem PCells.nil {V} : PCells V [] [] := ⟨rfl, by simp⟩
theorem PCells.cons {V x v cs vs} (h : PConc V x v) (t : PCells V cs vs) : PCells V (x :: cs) (v :: vs) := by
 refine ⟨by simp [t.1], fun j y hy => ?_⟩;cases j with
 | zero => simp at hy; subst hy; exact ⟨v, rfl, h⟩
 | succ j => exact t.2 j y (by simpa using hy)
theorem PCells.append {V a b u v} (h : PCells V a u) (t : PCells V b v) : PCells V (a ++ b) (u ++ v) := by
 refine ⟨by simp [h.1, t.1], fun j y hy => ?_⟩;by_cases hj : j < a.length
 · rw [List.getElem?_append_left hj] at hy;rw [List.getElem?_append_left (h.1 ▸ hj)]; exact h.2 j y hy
 · rw [List.getElem?_append_right (by omega)] at hy;rw [List.getElem?_append_right (by have := h.1; omega), ← h.1]; exact t.2 _ y hy
theorem PCells.one {V cs vs} (h : PCells V cs vs) : ∀ v ∈ vs, A3 v := by
 intro v hv;obtain ⟨j, hj⟩ := List.mem_iff_getElem?.1 hv;have hlt : j < cs.length := by have := (List.getElem?_eq_some_iff.1 hj).1; have := h.1; omega
 obtain ⟨v', h1, h2⟩ := h.2 j cs[j] (List.getElem?_eq_getElem hlt);rw [hj] at h1; cases h1; exact h2.one
def Ar : Value → List Value
 | .agg cs => cs.toList
 | v => [v]
theorem Fy (v : Value) : v.cells.toList = Ar v := by cases v <;> rfl
mutual
def Conc (V : View) (ρ : Nat → Value) : SV → Value → Prop
 | .pv x, v => PConc V x v
 | .vec n cs, v => ∃ vs, v = .agg ⟨vs⟩ ∧ vs.length = n ∧ PCells V cs vs
 | .agg l, v => ∃ vs, v = .agg ⟨vs⟩ ∧ Cells V ρ l vs
 | .tup l, v => ∃ vs, v = .tuple ⟨vs⟩ ∧ ConcL V ρ l vs
 | .p n off, v => ∃ b, ρ n = .pointer (some ⟨b, 0, none⟩) ∧ v = .pointer (some ⟨b, off, none⟩)
 | .ps n off, v => ∃ b, ρ n = .pointer (some ⟨b, 0, none⟩) ∧ v = .pointer (some ⟨b, off, none⟩)
 | .pr n sz i off, v => ∃ b l c, ρ n = .slice (some ⟨b, 0, none⟩) l c ∧ v = .pointer (some ⟨b, i * sz + off, none⟩)
 | .pi sz es i off, v => ∃ b o arr, v = .pointer (some ⟨b, o + (i * sz + off), none⟩) ∧ V b = some arr ∧
    ∀ c, es[i]? = some c → c.length = sz ∧ PCells V c ((arr.toList.drop (o + i * sz)).take sz)
 | .os n, v => v = ρ n ∧ A3 v
 | .ov n sz lo hi, v => ∃ base len cap base', ρ n = .slice base len cap ∧ lo ≤ hi ∧ hi ≤ len ∧ v = .slice base' (hi - lo) (cap - lo) ∧ (lo < hi ∨ lo = 0 → base' = base.map (·.add (lo * sz)))
 | .fn f cap, v => ∃ vs, v = .func f #[] ⟨vs⟩ ∧ ConcL V ρ cap vs
 | .dead, _ => True
def ConcL (V : View) (ρ : Nat → Value) : List SV → List Value → Prop
 | [], vs => vs = []
 | x :: l, vs => ∃ u us, vs = u :: us ∧ Conc V ρ x u ∧ ConcL V ρ l us
def Cells (V : View) (ρ : Nat → Value) : List SV → List Value → Prop
 | [], vs => vs = []
 | x :: l, vs => ∃ u us, vs = Ar u ++ us ∧ Conc V ρ x u ∧ (Ar u).length = x.width ∧ (∀ c ∈ Ar u, A3 c) ∧ Cells V ρ l us
end
mutual
theorem Conc.mono {V V' : View} (hV : V.le V') {ρ} : ∀ {x v}, Conc V ρ x v → Conc V' ρ x v
 | .pv x, v, h => by simp only [Conc] at *; exact h.mono hV
 | .vec n cs, v, h => by simp only [Conc] at *; obtain ⟨vs, a, b, c⟩ := h; exact ⟨vs, a, b, c.mono hV⟩
 | .agg l, v, h => by simp only [Conc] at *; obtain ⟨vs, a, b⟩ := h; exact ⟨vs, a, Cells.mono hV b⟩
 | .tup l, v, h => by simp only [Conc] at *; obtain ⟨vs, a, b⟩ := h; exact ⟨vs, a, ConcL.mono hV b⟩
 | .p n off, v, h => by simp only [Conc] at *; exact h
 | .ps n off, v, h => by simp only [Conc] at *; exact h
 | .pr n sz i off, v, h => by simp only [Conc] at *; exact h
 | .pi sz es i off, v, h => by
   simp only [Conc] at *;obtain ⟨b, o, arr, h1, h2, h3⟩ := h;exact ⟨b, o, arr, h1, hV _ _ h2, fun c hc => ⟨(h3 c hc).1, (h3 c hc).2.mono hV⟩⟩
 | .os n, v, h => by simp only [Conc] at *; exact h
 | .ov n sz lo hi, v, h => by simp only [Conc] at *; exact h
 | .fn f cap, v, h => by simp only [Conc] at *; obtain ⟨vs, a, b⟩ := h; exact ⟨vs, a, ConcL.mono hV b⟩
 | .dead, v, h => by simp only [Conc]
theorem ConcL.mono {V V' : View} (hV : V.le V') {ρ} : ∀ {l vs}, ConcL V ρ l vs → ConcL V' ρ l vs
 | [], vs, h => by simp only [ConcL] at *; exact h
 | x :: l, vs, h => by simp only [ConcL] at *; obtain ⟨u, us, a, b, c⟩ := h; exact ⟨u, us, a, Conc.mono hV b, ConcL.mono hV c⟩
theorem Cells.mono {V V' : View} (hV : V.le V') {ρ} : ∀ {l vs}, Cells V ρ l vs → Cells V' ρ l vs
 | [], vs, h => by simp only [Cells] at *; exact h
 | x :: l, vs, h => by simp only [Cells] at *; obtain ⟨u, us, a, b, c, d, e⟩ := h; exact ⟨u, us, a, Conc.mono hV b, c, d, Cells.mono hV e⟩
end
def upd (ρ : Nat → Value) (n : Nat) (p : Value) : Nat → Value := fun m => if m = n then p else ρ m
theorem Bv {ρ : Nat → Value} {n m p} (h : m ≠ n) : upd ρ n p m = ρ m := by simp [upd, h]
theorem Az {ρ : Nat → Value} {n p} : upd ρ n p n = p := by simp [upd]
mutual
theorem Jl (n : Nat) : ∀ x : SV, (x.kill n).width = x.width
 | .pv x => by simp only [SV.kill]
 | .vec m cs => by simp only [SV.kill]
 | .agg l => by simp only [SV.kill, SV.width]; exact T2 n l
 | .tup l => by simp only [SV.kill, SV.width]
 | .p m off => by simp only [SV.kill]; split <;> simp only [SV.width]
 | .ps m off => by simp only [SV.kill]; split <;> simp only [SV.width]
 | .pr m sz i off => by simp only [SV.kill]; split <;> simp only [SV.width]
 | .pi sz es i off => by simp only [SV.kill]
 | .os m => by simp only [SV.kill]; split <;> simp only [SV.width]
 | .ov m z a b => by simp only [SV.kill]; split <;> simp only [SV.width]
 | .fn f cap => by simp only [SV.kill, SV.width]
 | .dead => by simp only [SV.kill]
theorem T2 (n : Nat) : ∀ l : List SV, SV.widthL (SV.killL n l) = SV.widthL l
 | [] => by simp only [SV.killL]
 | x :: l => by simp only [SV.killL, SV.widthL, Jl n x, T2 n l]
end
mutual
theorem Conc.kill {V V' : View} (hV : V.le V') {ρ : Nat → Value} {n : Nat} {p : Value} : ∀ {x : SV} {v}, Conc V ρ x v → Conc V' (upd ρ n p) (x.kill n) v
 | .pv x, v, h => by simp only [SV.kill, Conc] at *; exact h.mono hV
 | .vec n cs, v, h => by simp only [SV.kill, Conc] at *; obtain ⟨vs, a, b, c⟩ := h; exact ⟨vs, a, b, c.mono hV⟩
 | .agg l, v, h => by simp only [SV.kill, Conc] at *; obtain ⟨vs, a, b⟩ := h; exact ⟨vs, a, Cells.kill hV b⟩
 | .tup l, v, h => by simp only [SV.kill, Conc] at *; obtain ⟨vs, a, b⟩ := h; exact ⟨vs, a, ConcL.kill hV b⟩
 | .p m off, v, h => by
   simp only [SV.kill]; split
   · simp only [Conc]
   · rename_i hn; simp only [Conc] at *; rw [Bv (Ne.symm hn)]; exact h
 | .ps m off, v, h => by
   simp only [SV.kill]; split
   · simp only [Conc]
   · rename_i hn; simp only [Conc] at *; rw [Bv (Ne.symm hn)]; exact h
 | .pr m sz i off, v, h => by
   simp only [SV.kill]; split
   · simp only [Conc]
   · rename_i hn; simp only [Conc] at *; rw [Bv (Ne.symm hn)]; exact h
 | .pi sz es i off, v, h => by
   simp only [SV.kill, Conc] at *;obtain ⟨b, o, arr, h1, h2, h3⟩ := h;exact ⟨b, o, arr, h1, hV _ _ h2, fun c hc => ⟨(h3 c hc).1, (h3 c hc).2.mono hV⟩⟩
 | .os m, v, h => by
   simp only [SV.kill]; split
   · simp only [Conc]
   · rename_i hn; simp only [Conc] at *; rw [Bv (Ne.symm hn)]; exact h
 | .ov m z a b, v, h => by
   simp only [SV.kill]; split
   · simp only [Conc]
   · rename_i hn; simp only [Conc] at *; rw [Bv (Ne.symm hn)]; exact h
 | .fn f cap, v, h => by simp only [SV.kill, Conc] at *; obtain ⟨vs, a, b⟩ := h; exact ⟨vs, a, ConcL.kill hV b⟩
 | .dead, v, h => by simp only [SV.kill, Conc]
theorem ConcL.kill {V V' : View} (hV : V.le V') {ρ : Nat → Value} {n : Nat} {p : Value} : ∀ {l : List SV} {vs}, ConcL V ρ l vs → ConcL V' (upd ρ n p) (SV.killL n l) vs
 | [], vs, h => by simp only [SV.killL, ConcL] at *; exact h
 | x :: l, vs, h => by simp only [SV.killL, ConcL] at *; obtain ⟨u, us, a, b, c⟩ := h; exact ⟨u, us, a, Conc.kill hV b, ConcL.kill hV c⟩
theorem Cells.kill {V V' : View} (hV : V.le V') {ρ : Nat → Value} {n : Nat} {p : Value} : ∀ {l : List SV} {vs}, Cells V ρ l vs → Cells V' (upd ρ n p) (SV.killL n l) vs
 | [], vs, h => by simp only [SV.killL, Cells] at *; exact h
 | x :: l, vs, h => by
   simp only [SV.killL, Cells] at *;obtain ⟨u, us, a, b, c, d, e⟩ := h;exact ⟨u, us, a, Conc.kill hV b, by rw [Jl]; exact c, d, Cells.kill hV e⟩
end
def noFroz (fr : Nat × Nat) (n : Nat) : Prop := fr.1 = fr.2 ∨ n ≤ fr.1
theorem noFroz.at {fr : Nat × Nat} {n : Nat} (h : noFroz fr n) (i : Nat) (hi : i < n) : ¬ (fr.1 ≤ i ∧ i < fr.2) := by unfold noFroz at h; omega
def rowFroz (sz : Nat) (fr : Nat × Nat) (n : Nat) : Prop := fr.1 = fr.2 ∨ (sz = 1 ∧ n ≤ fr.1)
theorem rowFroz.no {sz : Nat} {fr : Nat × Nat} {n : Nat} (h : rowFroz sz fr n) : noFroz fr n := h.imp_right (·.2)
def Cf : Value → Option Nat
 | .pointer (some a) => some a.block
 | .slice (some a) _ cap => if cap = 0 then none else some a.block
 | _ => none
def Own (w : World) (V : View) (ρ : Nat → Value) (n : Nat) : Blk → Prop
 | .var x => ∃ b vs ty fr u, ρ n = .pointer (some ⟨b, 0, none⟩) ∧ w.heap[b]? = some (.cells ⟨vs⟩ ty fr) ∧ noFroz fr vs.length ∧ Conc V ρ x u ∧ vs = Ar u ∧ vs.length = x.width ∧ ∀ c ∈ vs, A3 c
 | .row sz es => ∃ base cap, ρ n = .slice base es.length cap ∧ es.length ≤ cap ∧ 0 < sz ∧ (∀ c ∈ es, c.length = sz) ∧
    (cap ≠ 0 → ∃ b vs ty fr, base = some ⟨b, 0, none⟩ ∧ w.heap[b]? = some (.cells ⟨vs⟩ ty fr) ∧ vs.length = cap * sz ∧ rowFroz sz fr vs.length ∧ (∀ c ∈ vs, A3 c) ∧
      ∀ i c, es[i]? = some c → PCells V c ((vs.drop (i * sz)).take sz))
 | .rowc sz es cap => ∃ base, ρ n = .slice base es.length cap ∧ es.length ≤ cap ∧ 0 < sz ∧ (∀ c ∈ es, c.length = sz) ∧
    (cap ≠ 0 → ∃ b vs ty fr, base = some ⟨b, 0, none⟩ ∧ w.heap[b]? = some (.cells ⟨vs⟩ ty fr) ∧ vs.length = cap * sz ∧ rowFroz sz fr vs.length ∧ (∀ c ∈ vs, A3 c) ∧
      ∀ i c, es[i]? = some c → PCells V c ((vs.drop (i * sz)).take sz))
 | .it l pos => ∃ b, ρ n = .pointer (some ⟨b, 0, none⟩) ∧ w.heap[b]? = some (.stringIter ⟨l.toArray⟩ pos)
def Cb (ρ : Nat → Value) (h : Nat → Option Blk) (b : Nat) : Prop := ∃ n blk, h n = some blk ∧ Cf (ρ n) = some b
instance (fr : Nat × Nat) (n : Nat) : Decidable (noFroz fr n) := inferInstanceAs (Decidable (fr.1 = fr.2 ∨ n ≤ fr.1))
def Dg (w : World) (b : Nat) : Option (Array Value) := match w.heap[b]? with
 | some (.cells c _ fr) => if Th.t ≤ b ∧ ¬ noFroz fr c.size then none else some c
 | _ => none
theorem Mw {w : World} {b : Nat} {c : Array Value} {ty fr} (h : w.heap[b]? = some (.cells c ty fr)) (hn : noFroz fr c.size) : Dg w b = some c := by
 unfold Dg; rw [h];show (if _ then none else some c) = some c;rw [if_neg fun q => q.2 hn]
theorem Kt {w : World} {b : Nat} {c : Array Value} (h : Dg w b = some c) : ∃ ty fr, w.heap[b]? = some (.cells c ty fr) ∧ (Th.t ≤ b → noFroz fr c.size) := by
 unfold Dg at h;split at h
 · rename_i c' ty fr e;split at h
   · cases h
   · rename_i hn;cases h;exact ⟨ty, fr, e, fun ht => Classical.byContradiction fun q => hn ⟨ht, q⟩⟩
 · cases h
open Classical in
noncomputable def Am (w : World) (O : Nat → Prop) : View := fun b => if O b then none else Dg w b
theorem Ba {w w' : World} {O O' : Nat → Prop} (h : ∀ b c, ¬ O b → Dg w b = some c → ¬ O' b ∧ Dg w' b = some c) : (Am w O).le (Am w' O') := by
 intro b c hb;unfold Am at *;by_cases ho : O b
 · simp [ho] at hb
 · simp only [ho, if_false] at hb;obtain ⟨h1, h2⟩ := h b c ho hb;simp only [h1, if_false]; exact h2
def Aw6 : List (Nat × Array Value) := []
def Apy (w : World) : Prop := (∀ p ∈ Aw6, Dg w p.1 = some p.2) ∧ Th.t ≤ w.heap.size
structure Fr where
 w0 : World
 M0 : Nat → Prop
 hid : Nat → Prop
 x : Nat → Value := fun _ => undef
 defs : List Deferred := []
def Fr.val (F : Fr) (a : Act) (n : Nat) : Value := if n < Gg then a.tmps.getD n undef else F.x n
theorem Fr.val_lt {F : Fr} {a : Act} {n : Nat} (h : n < Gg) : F.val a n = a.tmps.getD n undef := by unfold Fr.val; rw [if_pos h]
def Fr.out (F : Fr) (ρ : Nat → Value) (h : Nat → Option Blk) (b : Nat) : Prop := Cb ρ h b ∨ F.hid b
structure Fr.ok (F : Fr) (w : World) : Prop where
 os : w.os = F.w0.os
 tape : w.tape = F.w0.tape
 output : w.output = F.w0.output
 size : F.w0.heap.size ≤ w.heap.size
 block : ∀ b, b < F.w0.heap.size → ¬ F.M0 b → w.heap[b]? = F.w0.heap[b]?
 hid : ∀ b, F.hid b → b < F.w0.heap.size ∧ ¬ F.M0 b
 tab : Apy F.w0 ∧ ∀ p ∈ Aw6, ¬ F.M0 p.1
structure RelR (F : Fr) (N : Nat) (ρ : Nat → Value) (s : FS) (a : Act) (w : World) : Prop where
 fr : F.ok w
 may : ∀ b, Cb ρ s.h b → F.w0.heap.size ≤ b ∨ F.M0 b
 own : ∀ n blk, s.h n = some blk → Own w (Am w (F.out ρ s.h)) ρ n blk
 inj : ∀ n m x y b, s.h n = some x → s.h m = some y → Cf (ρ n) = some b → Cf (ρ m) = some b → n = m
 tmps : ∀ n, Conc (Am w (F.out ρ s.h)) ρ (s.t n) (F.val a n)
 size : a.tmps.size = N
 defers : a.defers = F.defs
theorem RelR.tm {F : Fr} {N : Nat} {ρ s a w} (h : RelR F N ρ s a w) (n : Nat) (hn : n < Gg) : Conc (Am w (F.out ρ s.h)) ρ (s.t n) (a.tmps.getD n undef) := by
 have := h.tmps n
 rwa [Fr.val_lt hn] at this
def Rel (F : Fr) (N : Nat) (s : FS) (a : Act) (w : World) : Prop := ∃ ρ, RelR F N ρ s a w
theorem RelR.shown {F : Fr} {N : Nat} {ρ s a w b} (h : RelR F N ρ s a w) (hb : Cb ρ s.h b) : ¬ F.hid b := fun hh => by
 have h1 := h.fr.hid b hh;rcases h.may b hb with h2 | h2
 · omega
 · exact h1.2 h2
theorem Own.lt {w V ρ n blk b} (h : Own w V ρ n blk) (hb : Cf (ρ n) = some b) : b < w.heap.size := by
 cases blk with
 | var x =>
   obtain ⟨b', vs, ty, fr, u, h1, h2, _⟩ := h;rw [h1] at hb; simp [Cf] at hb; subst hb;exact (Array.getElem?_eq_some_iff.1 h2).1
 | row sz es =>
   obtain ⟨base, cap, h1, _, _, _, h2⟩ := h;rw [h1] at hb;cases base with
   | none => simp [Cf] at hb
   | some a =>
     simp only [Cf] at hb;split at hb
     · cases hb
     · rename_i hc;obtain ⟨b', vs, ty, fr, e1, e2, _⟩ := h2 hc;cases e1; simp at hb; subst hb;exact (Array.getElem?_eq_some_iff.1 e2).1
 | rowc sz es cap =>
   obtain ⟨base, h1, _, _, _, h2⟩ := h;rw [h1] at hb;cases base with
   | none => simp [Cf] at hb
   | some a =>
     simp only [Cf] at hb;split at hb
     · cases hb
     · rename_i hc;obtain ⟨b', vs, ty, fr, e1, e2, _⟩ := h2 hc;cases e1; simp at hb; subst hb;exact (Array.getElem?_eq_some_iff.1 e2).1
 | it l pos =>
   obtain ⟨b', h1, h2⟩ := h;rw [h1] at hb;simp [Cf] at hb; subst hb;exact (Array.getElem?_eq_some_iff.1 h2).1
end Go.Proofs.YthiamojjhdcegaaGreat.Fw
namespace Go.Proofs.YthiamojjhdcegaaGreat.Fw
variable [Th]
open Go.RowKit
theorem Fz {w : World} {b c} (h : Dg w b = some c) : b < w.heap.size := by
 unfold Dg at h;split at h
 · rename_i h1; exact (Array.getElem?_eq_some_iff.1 h1).1
 · cases h
theorem Cp {w w' : World} {b} (h : w'.heap[b]? = w.heap[b]?) : Dg w' b = Dg w b := by
 unfold Dg; rw [h]
theorem Own.congr {w w' : World} {V V' : View} {ρ n blk} (hV : V.le V') (hw : ∀ b, Cf (ρ n) = some b → w'.heap[b]? = w.heap[b]?) (h : Own w V ρ n blk) : Own w' V' ρ n blk := by
 cases blk with
 | var x =>
   obtain ⟨b, vs, ty, fr, u, h1, h2, h3, h4, h5⟩ := h;exact ⟨b, vs, ty, fr, u, h1, by rw [hw b (by rw [h1]; rfl)]; exact h2, h3, h4.mono hV, h5⟩
 | row sz es =>
   obtain ⟨base, cap, h1, h2, h3, h4, h5⟩ := h;refine ⟨base, cap, h1, h2, h3, h4, fun hc => ?_⟩;obtain ⟨b, vs, ty, fr, e1, e2, e3, e4, e5, e6⟩ := h5 hc;exact ⟨b, vs, ty, fr, e1, by rw [hw b (by rw [h1, e1]; simp [Cf, hc])]; exact e2, e3, e4, e5, fun i c hi => (e6 i c hi).mono hV⟩
 | rowc sz es cap =>
   obtain ⟨base, h1, h2, h3, h4, h5⟩ := h;refine ⟨base, h1, h2, h3, h4, fun hc => ?_⟩;obtain ⟨b, vs, ty, fr, e1, e2, e3, e4, e5, e6⟩ := h5 hc;exact ⟨b, vs, ty, fr, e1, by rw [hw b (by rw [h1, e1]; simp [Cf, hc])]; exact e2, e3, e4, e5, fun i c hi => (e6 i c hi).mono hV⟩
 | it l pos =>
   obtain ⟨b, h1, h2⟩ := h;exact ⟨b, h1, by rw [hw b (by rw [h1]; rfl)]; exact h2⟩
theorem Own.kill {w : World} {V V' : View} {ρ n m p blk} (hV : V.le V') (hne : m ≠ n) (h : Own w V ρ m blk) : Own w V' (upd ρ n p) m (blk.kill n) := by
 cases blk with
 | var x =>
   obtain ⟨b, vs, ty, fr, u, h1, h2, h3, h4, h5, h6, h7⟩ := h;exact ⟨b, vs, ty, fr, u, by rw [Bv hne]; exact h1, h2, h3, h4.kill hV, h5, by rw [Jl]; exact h6, h7⟩
 | row sz es =>
   obtain ⟨base, cap, h1, h2, h3, h4, h5⟩ := h;refine ⟨base, cap, by rw [Bv hne]; exact h1, h2, h3, h4, fun hc => ?_⟩;obtain ⟨b, vs, ty, fr, e1, e2, e3, e4, e5, e6⟩ := h5 hc;exact ⟨b, vs, ty, fr, e1, e2, e3, e4, e5, fun i c hi => (e6 i c hi).mono hV⟩
 | rowc sz es cap =>
   obtain ⟨base, h1, h2, h3, h4, h5⟩ := h;refine ⟨base, by rw [Bv hne]; exact h1, h2, h3, h4, fun hc => ?_⟩;obtain ⟨b, vs, ty, fr, e1, e2, e3, e4, e5, e6⟩ := h5 hc;exact ⟨b, vs, ty, fr, e1, e2, e3, e4, e5, fun i c hi => (e6 i c hi).mono hV⟩
 | it l pos =>
   obtain ⟨b, h1, h2⟩ := h;exact ⟨b, by rw [Bv hne]; exact h1, h2⟩
variable {F : Fr} {N : Nat} {ρ : Nat → Value} {s : FS} {a : Act} {w w' : World}
theorem RelR.put (h : RelR F N ρ s a w) {dst : Option Nat} {x : SV} {v : Value} (hd : ∀ d, dst = some d → d < N ∧ d < Gg)
 (hc : Conc (Am w (F.out ρ s.h)) ρ x v) : RelR F N ρ (s.apply dst x []) (a.put dst v) w := by
 cases dst with
 | none => simpa [FS.apply, FS.hup, Act.put] using h
 | some d =>
   obtain ⟨hdN, hdb⟩ := hd d rfl;refine ⟨h.fr, h.may, h.own, h.inj, fun n => ?_, by simp [Act.put, h.size], h.defers⟩;simp only [FS.apply, FS.hup, FS.set, Act.put];by_cases hn : n = d
   · subst hn;rw [Fr.val_lt hdb];simp [Array.getD_eq_getD_getElem?, Array.getElem?_setIfInBounds, h.size, hdN, hc]
   · simp only [hn, if_false];have := h.tmps n;unfold Fr.val at this ⊢;rw [Array.getD_eq_getD_getElem?] at this ⊢;rw [Array.getElem?_setIfInBounds_ne (Ne.symm hn)]; exact this
structure Grew (w w' : World) : Prop where
 os : w'.os = w.os
 tape : w'.tape = w.tape
 output : w'.output = w.output
 size : w.heap.size ≤ w'.heap.size
 block : ∀ b, b < w.heap.size → w'.heap[b]? = w.heap[b]?
theorem Grew.refl (w : World) : Grew w w := ⟨rfl, rfl, rfl, Nat.le_refl _, fun _ _ => rfl⟩
theorem Grew.push (w : World) (o : Obj) : Grew w { w with heap := w.heap.push o } :=
 ⟨rfl, rfl, rfl, by simp, fun b hb => by simp [Array.getElem?_push, Nat.ne_of_lt hb]⟩
theorem Grew.drawn (w : World) (n : Nat) : Grew w { w with drawn := n } := ⟨rfl, rfl, rfl, Nat.le_refl _, fun _ _ => rfl⟩
theorem Grew.trans {a b c : World} (h : Grew a b) (k : Grew b c) : Grew a c :=
 ⟨k.os.trans h.os, k.tape.trans h.tape, k.output.trans h.output, Nat.le_trans h.size k.size, fun i hi => (k.block i (Nat.lt_of_lt_of_le hi h.size)).trans (h.block i hi)⟩
theorem Fr.ok.grew (h : F.ok w) (g : Grew w w') : F.ok w' :=
 ⟨g.os.trans h.os, g.tape.trans h.tape, g.output.trans h.output, Nat.le_trans h.size g.size, fun b hb hm => (g.block b (Nat.lt_of_lt_of_le hb h.size)).trans (h.block b hb hm), h.hid, h.tab⟩
theorem RelR.tabW (h : RelR F N ρ s a w) : Apy w := ⟨fun p hp => by
 have h1 := h.fr.tab.1.1 p hp;rw [Cp (h.fr.block p.1 (Fz h1) (h.fr.tab.2 p hp))]; exact h1, Nat.le_trans h.fr.tab.1.2 h.fr.size⟩
theorem RelR.tabN (h : RelR F N ρ s a w) {p : Nat × Array Value} (hp : p ∈ Aw6) : ¬ Cb ρ s.h p.1 := fun ho => by
 have h1 := Fz (h.fr.tab.1.1 p hp);rcases h.may _ ho with h2 | h2
 · omega
 · exact h.fr.tab.2 p hp h2
theorem RelR.fresh (h : RelR F N ρ s a w) (hM : ∀ b, ¬ F.M0 b) {b : Nat} (ho : Cb ρ s.h b) : Th.t ≤ b :=
 Nat.le_trans h.fr.tab.1.2 ((h.may _ ho).resolve_right (hM b))
theorem RelR.lt (h : RelR F N ρ s a w) {b} (hb : Cb ρ s.h b) : b < w.heap.size := by
 obtain ⟨n, blk, h1, h2⟩ := hb; exact (h.own n blk h1).lt h2
theorem RelR.le_of_grew (h : RelR F N ρ s a w) (g : Grew w w') : (Am w (F.out ρ s.h)).le (Am w' (F.out ρ s.h)) :=
 Ba fun b c ho hc => ⟨ho, by rw [Cp (g.block b (Fz hc))]; exact hc⟩
theorem RelR.grew (h : RelR F N ρ s a w) (g : Grew w w') : RelR F N ρ s a w' := by
 have hV := h.le_of_grew g;exact ⟨h.fr.grew g, h.may, fun n blk hn => (h.own n blk hn).congr hV (fun b hb => g.block b ((h.own n blk hn).lt hb)), h.inj,
  fun n => (h.tmps n).mono hV, h.size, h.defers⟩
theorem RelR.adopt (h : RelR F N ρ s a w) (g : Grew w w') (n : Nat) (blk : Blk) (p : Value)
 (hid : ∀ b, Cf p = some b → w.heap.size ≤ b ∧ b < w'.heap.size)
 (hown : (Am w (F.out ρ s.h)).le (Am w' (F.out (upd ρ n p) ((s.kill n).seth n (some blk)).h)) → Own w' (Am w' (F.out (upd ρ n p) ((s.kill n).seth n (some blk)).h)) (upd ρ n p) n blk) :
 RelR F N (upd ρ n p) ((s.kill n).seth n (some blk)) a w' ∧ (Am w (F.out ρ s.h)).le (Am w' (F.out (upd ρ n p) ((s.kill n).seth n (some blk)).h)) := by
 have hh : ∀ m, m ≠ n → ((s.kill n).seth n (some blk)).h m = (s.h m).map (Blk.kill n) := fun m hm => by simp [FS.seth, FS.kill, hm]
 have hn : ((s.kill n).seth n (some blk)).h n = some blk := by simp [FS.seth]
 have key : ∀ b, Cb (upd ρ n p) ((s.kill n).seth n (some blk)).h b → (Cb ρ s.h b) ∨ Cf p = some b := by
  rintro b ⟨m, y, hm, hb⟩;by_cases e : m = n
  · subst e; rw [Az] at hb; exact .inr hb
  · rw [hh m e] at hm; rw [Bv e] at hb;cases hs : s.h m with
    | none => rw [hs] at hm; cases hm
    | some z => exact .inl ⟨m, z, hs, hb⟩
 have hV : (Am w (F.out ρ s.h)).le (Am w' (F.out (upd ρ n p) ((s.kill n).seth n (some blk)).h)) :=
  Ba fun b c ho hc => by
   have hlt := Fz hc;refine ⟨fun hb => ?_, by rw [Cp (g.block b hlt)]; exact hc⟩;rcases hb with hb | hb
   rotate_left
   · exact ho (.inr hb)
   rcases key b hb with h1 | h1
   · exact ho (.inl h1)
   · have := hid b h1; omega
 refine ⟨⟨h.fr.grew g, fun b hb => ?_, fun m y hm => ?_, fun m k x y b hm hk hbm hbk => ?_, fun m => ?_, h.size, h.defers⟩, hV⟩
 · rcases key b hb with h1 | h1
   · exact h.may b h1
   · exact .inl (Nat.le_trans h.fr.size (hid b h1).1)
 · by_cases e : m = n
   · subst e; rw [hn] at hm; cases hm; exact hown hV
   · rw [hh m e] at hm;cases hs : s.h m with
     | none => rw [hs] at hm; cases hm
     | some z =>
       rw [hs] at hm; cases hm;have ho := h.own m z hs;have hlt : ∀ b, Cf (ρ m) = some b → b < w.heap.size := fun b hb => ho.lt hb;exact (ho.congr (V' := Am w (F.out ρ s.h)) (w' := w') (fun _ _ x => x) (fun b hb => g.block b (hlt b hb))).kill hV e
 · by_cases e1 : m = n
   · by_cases e2 : k = n
     · rw [e1, e2]
     · exfalso;subst e1; rw [Az] at hbm; rw [Bv e2] at hbk; rw [hh k e2] at hk;cases hs : s.h k with
       | none => rw [hs] at hk; cases hk
       | some z => have := (h.own k z hs).lt hbk; have := hid b hbm; omega
   · by_cases e2 : k = n
     · exfalso;subst e2; rw [Az] at hbk; rw [Bv e1] at hbm; rw [hh m e1] at hm;cases hs : s.h m with
       | none => rw [hs] at hm; cases hm
       | some z => have := (h.own m z hs).lt hbm; have := hid b hbk; omega
     · rw [hh m e1] at hm; rw [hh k e2] at hk; rw [Bv e1] at hbm; rw [Bv e2] at hbk;cases hs : s.h m with
       | none => rw [hs] at hm; cases hm
       | some z => cases ht : s.h k with
         | none => rw [ht] at hk; cases hk
         | some z' => exact h.inj m k z z' b hs ht hbm hbk
 · show Conc _ _ ((s.t m).kill n) _;exact (h.tmps m).kill hV
theorem RelR.new (h : RelR F N ρ s a w) (g : Grew w w') (n : Nat) (blk : Blk) (p : Value)
 (hid : ∀ b, Cf p = some b → w.heap.size ≤ b ∧ b < w'.heap.size)
 (hown : ∀ V', (Am w (F.out ρ s.h)).le V' → Own w' V' (upd ρ n p) n blk) :
 RelR F N (upd ρ n p) ((s.kill n).seth n (some blk)) a w' ∧ (Am w (F.out ρ s.h)).le (Am w' (F.out (upd ρ n p) ((s.kill n).seth n (some blk)).h)) :=
 h.adopt g n blk p hid fun hV => hown _ hV
theorem RelR.upd (h : RelR F N ρ s a w) (n : Nat) (old blk : Blk) (hn : s.h n = some old) (b0 : Nat) (hb0 : Cf (ρ n) = some b0)
 (hos : w'.os = w.os) (htape : w'.tape = w.tape) (hout : w'.output = w.output) (hsize : w'.heap.size = w.heap.size)
 (hblock : ∀ b, b ≠ b0 → w'.heap[b]? = w.heap[b]?) (hown : Own w' (Am w (F.out ρ s.h)) ρ n blk) :
 RelR F N ρ (s.seth n (some blk)) a w' ∧ (Am w (F.out ρ s.h)).le (Am w' (F.out ρ (s.seth n (some blk)).h)) := by
 have hh : ∀ m, m ≠ n → (s.seth n (some blk)).h m = s.h m := fun m hm => by simp [FS.seth, hm]
 have hn' : (s.seth n (some blk)).h n = some blk := by simp [FS.seth]
 have how : ∀ b, Cb ρ (s.seth n (some blk)).h b ↔ Cb ρ s.h b := by
  intro b; constructor
  · rintro ⟨m, y, hm, hb⟩;by_cases e : m = n
    · subst e; exact ⟨m, old, hn, hb⟩
    · rw [hh m e] at hm; exact ⟨m, y, hm, hb⟩
  · rintro ⟨m, y, hm, hb⟩;by_cases e : m = n
    · subst e; exact ⟨m, blk, hn', hb⟩
    · exact ⟨m, y, by rw [hh m e]; exact hm, hb⟩
 have hV : (Am w (F.out ρ s.h)).le (Am w' (F.out ρ (s.seth n (some blk)).h)) :=
  Ba fun b c ho hc => by
   refine ⟨fun hb => ho (hb.imp_left (how b).1), ?_⟩;have : b ≠ b0 := fun e => ho (.inl (e ▸ ⟨n, old, hn, hb0⟩));rw [Cp (hblock b this)]; exact hc
 have hmay := h.may b0 ⟨n, old, hn, hb0⟩;refine ⟨⟨⟨hos.trans h.fr.os, htape.trans h.fr.tape, hout.trans h.fr.output, by rw [hsize]; exact h.fr.size, fun b hb hm => ?_, h.fr.hid, h.fr.tab⟩, fun b hb => h.may b ((how b).1 hb), fun m y hm => ?_, fun m k x y b hm hk hbm hbk => ?_, fun m => ?_, h.size, h.defers⟩, hV⟩
 · have : b ≠ b0 := fun e => by subst e; rcases hmay with h1 | h1; omega; exact hm h1
   rw [hblock b this]; exact h.fr.block b hb hm
 · by_cases e : m = n
   · subst e; rw [hn'] at hm; cases hm; exact hown.congr hV (fun _ _ => rfl)
   · rw [hh m e] at hm;exact (h.own m y hm).congr hV (fun b hb => hblock b (fun e2 => e (h.inj m n y old b hm hn hb (e2 ▸ hb0))))
 · have : ∀ m x, (s.seth n (some blk)).h m = some x → ∃ z, s.h m = some z := fun m x hx => by
    by_cases e : m = n
    · subst e; exact ⟨old, hn⟩
    · exact ⟨x, by rw [hh m e] at hx; exact hx⟩
   obtain ⟨z1, h1⟩ := this m x hm; obtain ⟨z2, h2⟩ := this k y hk;exact h.inj m k z1 z2 b h1 h2 hbm hbk
 · exact (h.tmps m).mono hV
theorem RelR.del (h : RelR F N ρ s a w) (n : Nat) : RelR F N ρ (s.seth n none) a w ∧ (Am w (F.out ρ s.h)).le (Am w (F.out ρ (s.seth n none).h)) := by
 have hh : ∀ m x, (s.seth n none).h m = some x → s.h m = some x ∧ m ≠ n := fun m x hm => by
  simp only [FS.seth] at hm; split at hm
  · cases hm
  · rename_i e; exact ⟨hm, e⟩
 have how : ∀ b, Cb ρ (s.seth n none).h b → Cb ρ s.h b := by
  rintro b ⟨m, y, hm, hb⟩; exact ⟨m, y, (hh m y hm).1, hb⟩
 have hV : (Am w (F.out ρ s.h)).le (Am w (F.out ρ (s.seth n none).h)) := Ba fun b c ho hc => ⟨fun hb => ho (hb.imp_left (how b)), hc⟩
 exact ⟨⟨h.fr, fun b hb => h.may b (how b hb), fun m y hm => (h.own m y (hh m y hm).1).congr hV (fun _ _ => rfl),
  fun m k x y b hm hk => h.inj m k x y b (hh m x hm).1 (hh k y hk).1, fun m => (h.tmps m).mono hV, h.size, h.defers⟩, hV⟩
end Go.Proofs.YthiamojjhdcegaaGreat.Fw
namespace Go.Proofs.YthiamojjhdcegaaGreat.Fw
variable [Th]
open Go.RowKit
variable {P : Program}
theorem Ab {α β : Type} {m : Sem α} {f : α → Sem β} {w w' : World} {x : α} (h : m.run P w = .ok x w') : (m >>= f).run P w = (f x).run P w' := by
 rw [Sem.run_bind, h]; rfl
theorem Q2 {t : TypeId} {i : TypeInfo} (h : P.info? t = some i) (w : World) : (typeInfo t).run P w = .ok i w := by
 show ((program >>= fun p => _)).run P w = _;rw [Ab (x := P) (w' := w) rfl];simp only [h]; rfl
theorem Ce {t : TypeId} {n : Nat} (h : Ai P t = some n) (w : World) : (sizeOf t).run P w = .ok n w := by
 unfold Ai at h;cases hi : P.info? t with
 | none => rw [hi] at h; cases h
 | some i =>
   rw [hi] at h; cases h;unfold sizeOf;rw [Ab (Q2 hi w)]; rfl
theorem run_underlying {t : TypeId} {d : TypeDesc} (h : P.underlying t = some d) (w : World) : (underlying t).run P w = .ok d w := by
 unfold Go.underlying;rw [Ab (x := P) (w' := w) rfl];simp only [h]; rfl
theorem Lb {t : TypeId} {ag : Bool} (h : Fl P t = some ag) (w : World) : (isAgg t).run P w = .ok ag w := by
 unfold Fl at h;cases hd : P.underlying t with
 | none => rw [hd] at h; cases h
 | some d =>
   rw [hd] at h;unfold isAgg;rw [Ab (run_underlying hd w)];cases d <;> simp at h <;> subst h <;> rfl
theorem Dd (b off i : Nat) : (Addr.add ⟨b, off, none⟩ i) = ⟨b, off + i, none⟩ := by
 unfold Addr.add; split
 · rename_i h; subst h; rfl
 · rfl
theorem O9 {w : World} {b : Nat} {c : Array Value} {ty fr} (h : w.heap[b]? = some (.cells c ty fr)) (o : Nat) : w.cell? ⟨b, o, none⟩ = c[o]? := by
 unfold World.cell?; simp only [h]; rfl
theorem Q3 {w : World} {b off : Nat} {c : Array Value} {ty fr} (h : w.heap[b]? = some (.cells c ty fr)) :
 ∀ (n i : Nat) (acc : Array Value), off + i + n ≤ c.size → (loadCellsFrom ⟨b, off, none⟩ i n acc).run P w = .ok (acc ++ (c.toList.drop (off + i)).take n) w := by
 intro n
 induction n with
 | zero => intro i acc _; simp [loadCellsFrom]
 | succ n ih =>
   intro i acc hn;have hlt : off + i < c.size := by omega
   have hl : (load (Addr.add ⟨b, off, none⟩ i)).run P w = .ok c[off + i] w := by
    unfold load;simp only [Sem.run, Dd, O9 h, Array.getElem?_eq_getElem hlt]
   unfold loadCellsFrom;rw [Ab hl, ih (i + 1) _ (by omega)];congr 1;have : (c.toList.drop (off + i)).take (n + 1) = c[off + i] :: (c.toList.drop (off + (i + 1))).take n := by
    rw [List.drop_eq_getElem_cons (by simpa using hlt)]; simp [Nat.add_assoc]
   rw [this];apply Array.ext';simp
theorem Ia {w : World} {b off n : Nat} {c : Array Value} {ty fr} (h : w.heap[b]? = some (.cells c ty fr)) (hn : off + n ≤ c.size) :
 (loadCells ⟨b, off, none⟩ n).run P w = .ok ⟨(c.toList.drop off).take n⟩ w := by
 unfold loadCells;rw [Q3 h n 0 #[] (by omega)];simp
structure Wrote (w w' : World) (b : Nat) (vs : List Value) (ty : TypeId) (fr : Nat × Nat) : Prop where
 os : w'.os = w.os
 tape : w'.tape = w.tape
 output : w'.output = w.output
 size : w'.heap.size = w.heap.size
 block : ∀ i, i ≠ b → w'.heap[i]? = w.heap[i]?
 here : w'.heap[b]? = some (.cells ⟨vs⟩ ty fr)
theorem Fp : ∀ (us : List Value) (i : Nat) {w : World} {b off : Nat} {vs : List Value} {ty fr}, w.heap[b]? = some (.cells ⟨vs⟩ ty fr) → noFroz fr vs.length →
 (∀ u ∈ us, A3 u) → off + i + us.length ≤ vs.length →
 ∃ w', (storeCells ⟨b, off, none⟩ us i).run P w = .ok () w' ∧ Wrote w w' b (vs.take (off + i) ++ us ++ vs.drop (off + i + us.length)) ty fr := by
 intro us
 induction us with
 | nil =>
   intro i w b off vs ty fr h hf ho hn;refine ⟨w, rfl, rfl, rfl, rfl, rfl, fun _ _ => rfl, ?_⟩;simp; exact h
 | cons u us ih =>
   intro i w b off vs ty fr h hf ho hn;have hlt : off + i < vs.length := by simp at hn; omega
   have hone := ho u (by simp);have hblt : b < w.heap.size := (Array.getElem?_eq_some_iff.1 h).1;have hset : (w.setCell ⟨b, off + i, none⟩ u).heap[b]? = some (.cells ⟨vs.set (off + i) u⟩ ty fr) := by
    unfold World.setCell;simp only;rw [Array.getElem?_modify, if_pos rfl, h];simp [List.setIfInBounds_toArray]
   have hstore : (store (Addr.add ⟨b, off, none⟩ i) u).run P w = .ok () (w.setCell ⟨b, off + i, none⟩ u) := by
    have hc : w.cell? ⟨b, off + i, none⟩ = some vs[off + i] := by rw [O9 h]; simp [hlt]
    have hz : w.frozen? ⟨b, off + i, none⟩ = false := by
     unfold World.frozen?; simp only [h];have := hf.at (off + i) hlt;simp only [Bool.and_eq_false_iff, decide_eq_false_iff_not];by_cases h1 : fr.1 ≤ off + i
     · exact .inr fun h2 => this ⟨h1, h2⟩
     · exact .inl h1
    rw [Dd, run_store P w _ u .plain (by cases u <;> simp_all [A3, Value.oneCell'])];simp only [hc, hz]; rfl
   obtain ⟨w', h1, h2⟩ := ih (i + 1) (off := off) hset (by simpa using hf) (fun x hx => ho x (by simp [hx])) (by simp at hn ⊢; omega);refine ⟨w', ?_, ?_⟩
   · unfold storeCells;rw [Ab hstore]; exact h1
   · have e : (vs.set (off + i) u).take (off + (i + 1)) ++ us ++ (vs.set (off + i) u).drop (off + (i + 1) + us.length) = vs.take (off + i) ++ (u :: us) ++ vs.drop (off + i + (u :: us).length) := by
      rw [List.drop_set_of_lt (by omega), show off + (i + 1) = off + i + 1 from by omega, List.take_succ_eq_append_getElem (by simpa using hlt)];simp [List.take_set_of_le, Nat.add_assoc, Nat.add_comm 1]
     rw [e] at h2;refine ⟨h2.os, h2.tape, h2.output, ?_, fun j hj => ?_, h2.here⟩
     · rw [h2.size]; simp [World.setCell]
     · rw [h2.block j hj]; unfold World.setCell; simp only; rw [Array.getElem?_modify, if_neg (Ne.symm hj)]
end Go.Proofs.YthiamojjhdcegaaGreat.Fw
namespace Go.Proofs.YthiamojjhdcegaaGreat.Fw
variable [Th]
open Go.RowKit
variable {V : View} {ρ : Nat → Value}
theorem Cells.facts : ∀ {l vs}, Cells V ρ l vs → vs.length = SV.widthL l ∧ ∀ c ∈ vs, A3 c
 | [], vs, h => by simp only [Cells] at h; subst h; simp [SV.widthL]
 | x :: l, vs, h => by
   simp only [Cells] at h;obtain ⟨u, us, rfl, h1, h2, h3, h4⟩ := h;obtain ⟨h5, h6⟩ := Cells.facts h4;refine ⟨by simp [SV.widthL, h2, h5], fun c hc => ?_⟩;rcases List.mem_append.1 hc with h | h
   · exact h3 c h
   · exact h6 c h
theorem Conc.flat {x v} (h : Conc V ρ x v) (hf : x.flatB = true) : (Ar v).length = x.width ∧ ∀ c ∈ Ar v, A3 c := by
 have one : ∀ v : Value, A3 v → (Ar v).length = 1 ∧ ∀ c ∈ Ar v, A3 c := fun v hv => by
  cases v <;> simp_all [A3, Ar]
 cases x with
 | pv x => simp only [Conc] at h; exact one v h.one
 | vec n cs => simp only [Conc] at h; obtain ⟨vs, rfl, h1, h2⟩ := h; exact ⟨h1, h2.one⟩
 | agg l => simp only [Conc] at h; obtain ⟨vs, rfl, h1⟩ := h; exact h1.facts
 | tup l => simp [SV.flatB] at hf
 | p n off => simp only [Conc] at h; obtain ⟨b, _, rfl⟩ := h; exact one _ trivial
 | ps n off => simp only [Conc] at h; obtain ⟨b, _, rfl⟩ := h; exact one _ trivial
 | pr n sz i off => simp only [Conc] at h; obtain ⟨b, l, c, _, rfl⟩ := h; exact one _ trivial
 | pi sz es i off => simp only [Conc] at h; obtain ⟨b, o, arr, rfl, _⟩ := h; exact one _ trivial
 | os n => simp only [Conc] at h; exact one v h.2
 | ov n z lo hi => simp only [Conc] at h; obtain ⟨_, _, _, _, _, _, _, rfl, _⟩ := h; exact one _ trivial
 | fn f cap => simp only [Conc] at h; obtain ⟨vs, rfl, _⟩ := h; exact one _ trivial
 | dead => simp [SV.flatB] at hf
mutual
theorem Conc.cells : ∀ {x v cs}, Conc V ρ x v → x.cells? = some cs → PCells V cs (Ar v)
 | .pv x, v, cs, h, hc => by
   simp only [SV.cells?, Option.some.injEq] at hc; subst hc;simp only [Conc] at h;have : Ar v = [v] := by have := h.one; cases v <;> simp_all [A3, Ar]
   rw [this]; exact .cons h .nil
 | .vec n l, v, cs, h, hc => by
   simp only [SV.cells?, Option.some.injEq] at hc; subst hc;simp only [Conc] at h; obtain ⟨vs, rfl, h1, h2⟩ := h; exact h2
 | .agg l, v, cs, h, hc => by
   simp only [SV.cells?] at hc;simp only [Conc] at h; obtain ⟨vs, rfl, h1⟩ := h; exact Cells.cells h1 hc
 | .tup _, _, _, _, hc => by simp [SV.cells?] at hc
 | .p _ _, _, _, _, hc => by simp [SV.cells?] at hc
 | .ps _ _, _, _, _, hc => by simp [SV.cells?] at hc
 | .pr _ _ _ _, _, _, _, hc => by simp [SV.cells?] at hc
 | .pi _ _ _ _, _, _, _, hc => by simp [SV.cells?] at hc
 | .os _, _, _, _, hc => by simp [SV.cells?] at hc
 | .ov _ _ _ _, _, _, _, hc => by simp [SV.cells?] at hc
 | .fn _ _, _, _, _, hc => by simp [SV.cells?] at hc
 | .dead, _, _, _, hc => by simp [SV.cells?] at hc
theorem Cells.cells : ∀ {l vs cs}, Cells V ρ l vs → SV.cellsL? l = some cs → PCells V cs vs
 | [], vs, cs, h, hc => by
   simp only [Cells] at h; subst h; simp only [SV.cellsL?, Option.some.injEq] at hc; subst hc; exact .nil
 | x :: l, vs, cs, h, hc => by
   simp only [Cells] at h;obtain ⟨u, us, rfl, h1, h2, h3, h4⟩ := h;simp only [SV.cellsL?] at hc;cases ha : x.cells? with
   | none => rw [ha] at hc; simp [Pf] at hc
   | some a => cases hb : SV.cellsL? l with
     | none => rw [ha, hb] at hc; simp [Pf] at hc
     | some b =>
       rw [ha, hb] at hc; simp only [Pf, Option.some.injEq] at hc; subst hc;exact (Conc.cells h1 ha).append (Cells.cells h4 hb)
end
theorem PCells.split {cs vs} (h : PCells V cs vs) (n : Nat) : PCells V (cs.take n) (vs.take n) ∧ PCells V (cs.drop n) (vs.drop n) := by
 refine ⟨⟨by simp [h.1], fun j x hj => ?_⟩, ⟨by simp [h.1], fun j x hj => ?_⟩⟩
 · rw [List.getElem?_take] at hj;split at hj
   · rename_i hlt; obtain ⟨v, h1, h2⟩ := h.2 j x hj; exact ⟨v, by rw [List.getElem?_take, if_pos hlt]; exact h1, h2⟩
   · cases hj
 · rw [List.getElem?_drop] at hj;obtain ⟨v, h1, h2⟩ := h.2 _ x hj; exact ⟨v, by rw [List.getElem?_drop]; exact h1, h2⟩
theorem PCells.inv_cons {x cs vs} (h : PCells V (x :: cs) vs) : ∃ v us, vs = v :: us ∧ PConc V x v ∧ PCells V cs us := by
 cases vs with
 | nil => have := h.1; simp at this
 | cons v us =>
   obtain ⟨v', h1, h2⟩ := h.2 0 x rfl;simp at h1; subst h1;exact ⟨v, us, rfl, h2, by simpa using h.1, fun j y hj => by simpa using h.2 (j + 1) y (by simpa using hj)⟩
mutual
theorem Qi : ∀ {x : SV} {cs vs}, x.ok → x.cells? = some cs → PCells V cs vs → ∃ v, Ar v = vs ∧ Conc V ρ x v ∧ (Ar v).length = x.width ∧ (match x with | .pv _ => vs = [v] | _ => v = .agg ⟨vs⟩)
 | .pv x, cs, vs, ho, hc, h => by
   simp only [SV.cells?, Option.some.injEq] at hc; subst hc;obtain ⟨v, us, rfl, h1, h2⟩ := h.inv_cons;have : us = [] := by have := h2.1; simp at this; exact List.eq_nil_of_length_eq_zero this.symm
   subst this;have e : Ar v = [v] := by have := h1.one; cases v <;> simp_all [A3, Ar]
   exact ⟨v, e, by simp only [Conc]; exact h1, by rw [e]; rfl, rfl⟩
 | .vec n l, cs, vs, ho, hc, h => by
   simp only [SV.cells?, Option.some.injEq] at hc; subst hc;simp only [SV.ok] at ho;exact ⟨.agg ⟨vs⟩, rfl, by simp only [Conc]; exact ⟨vs, rfl, by rw [← h.1]; exact ho, h⟩, by simp only [Ar, SV.width]; rw [← h.1]; exact ho, rfl⟩
 | .agg l, cs, vs, ho, hc, h => by
   simp only [SV.cells?] at hc;simp only [SV.ok] at ho;have hcl := Up (l := l) ho hc h;exact ⟨.agg ⟨vs⟩, rfl, by simp only [Conc]; exact ⟨vs, rfl, hcl⟩, hcl.facts.1, rfl⟩
 | .tup _, _, _, _, hc, _ => by simp [SV.cells?] at hc
 | .p _ _, _, _, _, hc, _ => by simp [SV.cells?] at hc
 | .ps _ _, _, _, _, hc, _ => by simp [SV.cells?] at hc
 | .pr _ _ _ _, _, _, _, hc, _ => by simp [SV.cells?] at hc
 | .pi _ _ _ _, _, _, _, hc, _ => by simp [SV.cells?] at hc
 | .os _, _, _, _, hc, _ => by simp [SV.cells?] at hc
 | .ov _ _ _ _, _, _, _, hc, _ => by simp [SV.cells?] at hc
 | .fn _ _, _, _, _, hc, _ => by simp [SV.cells?] at hc
 | .dead, _, _, _, hc, _ => by simp [SV.cells?] at hc
theorem Up : ∀ {l : List SV} {cs vs}, SV.okL l → SV.cellsL? l = some cs → PCells V cs vs → Cells V ρ l vs
 | [], cs, vs, _, hc, h => by
   simp only [SV.cellsL?, Option.some.injEq] at hc; subst hc;have := h.1; simp at this;simp only [Cells]; exact List.eq_nil_of_length_eq_zero this.symm
 | x :: l, cs, vs, ho, hc, h => by
   simp only [SV.okL] at ho;simp only [SV.cellsL?] at hc;cases ha : x.cells? with
   | none => rw [ha] at hc; simp [Pf] at hc
   | some a => cases hb : SV.cellsL? l with
     | none => rw [ha, hb] at hc; simp [Pf] at hc
     | some b =>
       rw [ha, hb] at hc; simp only [Pf, Option.some.injEq] at hc; subst hc;obtain ⟨s1, s2⟩ := h.split a.length;simp only [List.take_left, List.drop_left] at s1 s2;obtain ⟨v, e1, e2, e3, e4⟩ := Qi (x := x) ho.1 ha s1;simp only [Cells];refine ⟨v, vs.drop a.length, by rw [e1, List.take_append_drop], e2, e3, fun c hc => s1.one c (e1 ▸ hc), Up ho.2 hb s2⟩
end
theorem Az2 {x : SV} {ag n} (h : x.form ag n) (hl : ∀ m cs, x = .vec m cs → cs.length = m) : x.ok := by
 cases x <;> simp_all [SV.form, SV.ok]
theorem Ao3 {x : SV} {ag : Bool} {n : Nat} {cs : List PV} {vs : List Value} (h : x.form ag n) (hc : x.cells? = some cs) (hp : PCells V cs vs) (hn : vs.length = n) :
 if ag then Conc V ρ x (.agg ⟨vs⟩) else ∃ v, vs = [v] ∧ Conc V ρ x v := by
 have hok : x.ok := Az2 h fun m cs' e => by
  subst e; simp only [SV.cells?, Option.some.injEq] at hc; subst hc; simp only [SV.form] at h; rw [hp.1, hn, h.2]
 obtain ⟨v, e1, e2, e3, e4⟩ := Qi (ρ := ρ) hok hc hp;cases x with
 | pv x => simp only [SV.form] at h; rw [h.1]; simp only [Bool.false_eq_true, if_false]; exact ⟨v, e4, e2⟩
 | vec m l => simp only [SV.form] at h; rw [h.1]; simp only [if_true]; simp only at e4; exact e4 ▸ e2
 | agg l => simp only [SV.form] at h; rw [h.1]; simp only [if_true]; simp only at e4; exact e4 ▸ e2
 | _ => simp [SV.form] at h
theorem Cells.append : ∀ {a b u v}, Cells V ρ a u → Cells V ρ b v → Cells V ρ (a ++ b) (u ++ v)
 | [], b, u, v, h, k => by simp only [Cells] at h; subst h; simpa using k
 | x :: a, b, u, v, h, k => by
   simp only [Cells] at h;obtain ⟨c, us, rfl, h1, h2, h3, h4⟩ := h;simp only [List.cons_append, Cells];exact ⟨c, us ++ v, by simp, h1, h2, h3, Cells.append h4 k⟩
theorem Ao7 {x v} (h : Conc V ρ x v) (h1 : (Ar v).length = x.width) (h2 : ∀ c ∈ Ar v, A3 c) : Cells V ρ [x] (Ar v) := by
 simp only [Cells]; exact ⟨v, [], by simp, h, h1, h2, rfl⟩
theorem Qk {x v} (h : Conc V ρ x v) (h1 : (Ar v).length = x.width) (h2 : ∀ c ∈ Ar v, A3 c) : Cells V ρ x.segs (Ar v) := by
 cases x with
 | agg l => simp only [Conc] at h; obtain ⟨vs, rfl, h3⟩ := h; exact h3
 | _ => exact Ao7 h h1 h2
theorem M7 {x v} (h : Conc V ρ x v) (hf : x.flatB = true) : Cells V ρ x.segs (Ar v) := Qk h (h.flat hf).1 (h.flat hf).2
theorem Ait : ∀ {l : List SV} {off size : Nat} {l' vs}, cut l off size = some l' → Cells V ρ l vs → off + size ≤ vs.length ∧ Cells V ρ l' ((vs.drop off).take size)
 | [], off, size, l', vs, h, hc => by
   simp only [cut] at h;split at h
   · rename_i e; obtain ⟨rfl, rfl⟩ := e; cases h; simp only [Cells] at hc; subst hc; simp [Cells]
   · cases h
 | x :: l, off, size, l', vs, h, hc => by
   have hf := hc.facts;simp only [Cells] at hc;obtain ⟨u, us, rfl, h1, h2, h3, h4⟩ := hc;have hlen : (Ar u ++ us).length = x.width + us.length := by simp [h2]
   simp only [cut] at h;split at h
   · rename_i e; subst e;split at h
     · rename_i e; subst e; cases h;exact ⟨by simp, by simp [Cells]⟩
     · split at h
       · rename_i e1;cases hr : cut l 0 (size - x.width) with
         | none => rw [hr] at h; cases h
         | some r =>
           rw [hr] at h; cases h;obtain ⟨i1, i2⟩ := Ait hr h4;refine ⟨by rw [hlen]; omega, ?_⟩;simp only [List.drop_zero] at i2 ⊢;rw [List.take_append, List.take_of_length_le (by omega), h2];simp only [Cells];exact ⟨u, _, rfl, h1, h2, h3, i2⟩
       · cases h
   · rename_i e;split at h
     · rename_i e1;obtain ⟨i1, i2⟩ := Ait h h4;refine ⟨by rw [hlen]; omega, ?_⟩;rw [List.drop_append, List.drop_of_length_le (by omega), h2, List.nil_append];exact i2
     · cases h
theorem Aha : ∀ {l : List SV} {off size : Nat} {ys l' vs us}, spl l off size ys = some l' → Cells V ρ l vs → Cells V ρ ys us → off + size ≤ vs.length ∧ Cells V ρ l' (vs.take off ++ us ++ vs.drop (off + size))
 | [], off, size, ys, l', vs, us, h, hc, hy => by
   simp only [spl] at h;split at h
   · rename_i e; obtain ⟨rfl, rfl⟩ := e; cases h; simp only [Cells] at hc; subst hc; simp; exact hy
   · cases h
 | x :: l, off, size, ys, l', vs, us, h, hc, hy => by
   have hcc := hc;simp only [Cells] at hc;obtain ⟨u, t, rfl, h1, h2, h3, h4⟩ := hc;have hlen : (Ar u ++ t).length = x.width + t.length := by simp [h2]
   simp only [spl] at h;split at h
   · rename_i e; subst e;split at h
     · rename_i e; subst e; cases h;refine ⟨by simp, ?_⟩;simp only [List.take_zero, List.nil_append, Nat.add_zero, List.drop_zero];exact hy.append hcc
     · split at h
       · rename_i e0 e1;obtain ⟨i1, i2⟩ := Aha h h4 hy;refine ⟨by rw [hlen]; omega, ?_⟩;simp only [List.take_zero, List.nil_append, Nat.zero_add] at i2 ⊢;rw [List.drop_append, List.drop_of_length_le (by omega), h2, List.nil_append];exact i2
       · cases h
   · rename_i e;split at h
     · rename_i e1;cases hr : spl l (off - x.width) size ys with
       | none => rw [hr] at h; cases h
       | some r =>
         rw [hr] at h; cases h;obtain ⟨i1, i2⟩ := Aha hr h4 hy;refine ⟨by rw [hlen]; omega, ?_⟩;rw [List.take_append, List.take_of_length_le (by omega), List.drop_append, List.drop_of_length_le (by omega), h2];simp only [Cells];refine ⟨u, _, ?_, h1, h2, h3, i2⟩;simp [show off + size - x.width = off - x.width + size from by omega]
     · cases h
theorem Asz {ag : Bool} {l : List SV} {y : SV} {us : List Value} (h : Xc ag l = some y) (hc : Cells V ρ l us) :
 if ag then Conc V ρ y (.agg ⟨us⟩) else ∃ v, us = [v] ∧ Conc V ρ y v := by
 have hagg : ∀ l : List SV, Cells V ρ l us → Conc V ρ (.agg l) (.agg ⟨us⟩) := fun l h => by simp only [Conc]; exact ⟨us, rfl, h⟩
 rcases l with _ | ⟨x, _ | ⟨z, l⟩⟩
 · simp only [Xc] at h;cases ag <;> simp at h; subst h; exact hagg _ hc
 · have hc' := hc;simp only [Cells] at hc;obtain ⟨u, t, rfl, h1, h2, h3, rfl⟩ := hc;simp only [List.append_nil] at *;cases ag with
   | true =>
     cases x <;> simp only [Xc, if_true, Option.some.injEq] at h <;> subst h <;> simp only [if_true]
     case vec n cs => simp only [Conc] at h1 ⊢; obtain ⟨vs, rfl, a, b⟩ := h1; exact ⟨_, rfl, a, b⟩
     all_goals exact hagg _ hc'
   | false =>
     simp only [Bool.false_eq_true, if_false];have key : ∀ x : SV, x.width = 1 → (∀ c, u = .agg c → Conc V ρ x (.agg c) → ∀ v, A3 v → Conc V ρ x v) → Conc V ρ x u → (Ar u).length = 1 → (∀ c ∈ Ar u, A3 c) → ∃ v, Ar u = [v] ∧ Conc V ρ x v := by
      intro x _ hx hu hl ho;cases u with
      | agg c =>
        simp only [Ar] at hl ho ⊢;obtain ⟨v, hv⟩ := List.length_eq_one_iff.1 hl;exact ⟨v, hv, hx c rfl hu v (ho v (by rw [hv]; simp))⟩
      | _ => exact ⟨_, rfl, hu⟩
     cases x <;> simp only [Xc, Bool.false_eq_true, if_false, Option.some.injEq, reduceCtorEq] at h <;> subst h <;> refine key _ rfl ?_ h1 h2 h3 <;> intro c hu hcc v hv <;> simp only [Conc] at hcc
     case pv x => have := hcc.one; simp [A3] at this
     case tup => obtain ⟨_, h, _⟩ := hcc; cases h
     case p => obtain ⟨_, _, h⟩ := hcc; cases h
     case ps => obtain ⟨_, _, h⟩ := hcc; cases h
     case pr => obtain ⟨_, _, _, _, h⟩ := hcc; cases h
     case pi => obtain ⟨_, _, _, h, _⟩ := hcc; cases h
     case os => have := hcc.2; simp [A3] at this
     case ov => obtain ⟨_, _, _, _, _, _, _, h, _⟩ := hcc; cases h
     case fn => obtain ⟨_, h, _⟩ := hcc; cases h
     case dead => simp only [Conc]
 · have : Xc ag (x :: z :: l) = if ag then some (.agg (x :: z :: l)) else none := by cases x <;> rfl
   rw [this] at h;cases ag <;> simp at h; subst h; exact hagg _ hc
end Go.Proofs.YthiamojjhdcegaaGreat.Fw
namespace Go.Proofs.YthiamojjhdcegaaGreat.Fw
variable [Th]
open Go.RowKit
variable {P : Program} {F : Fr} {N : Nat} {ρ : Nat → Value} {s : FS} {a : Act} {w w' : World} {K : KK}
noncomputable abbrev vw (F : Fr) (w : World) (ρ : Nat → Value) (s : FS) : View := Am w (F.out ρ s.h)
theorem Adp {α : Type} {l : List α} {off n : Nat} {v : α} (h : (l.drop off).take n = [v]) : l[off]? = some v := by
 have := congrArg (fun l => l[0]?) h;simp only [List.getElem?_take, List.getElem?_drop, List.getElem?_cons_zero, Nat.add_zero] at this;split at this
 · exact this
 · cases this
theorem Ud {t : TypeId} {size : Nat} {ag : Bool} {b off : Nat} {c : Array Value} {ty fr} (hz : Ai P t = some size) (hag : Fl P t = some ag)
 (h : w.heap[b]? = some (.cells c ty fr)) (hn : off + size ≤ c.size) {v : Value}
 (hv : if ag then v = .agg ⟨(c.toList.drop off).take size⟩ else (c.toList.drop off).take size = [v]) :
 (loadVar t ⟨b, off, none⟩).run P w = .ok v w := by
 unfold loadVar;rw [Ab (Lb hag w)];cases ag with
 | true =>
   simp only [if_true] at hv ⊢;rw [Ab (Ce hz w), Ab (Ia h hn)];rw [hv]; rfl
 | false =>
   simp only [Bool.false_eq_true, if_false] at hv ⊢;have := Adp hv;simp only [run_load, O9 h];rw [← Array.getElem?_toList, this]
theorem Qx {ad : Addr} : (Instr.sureAddr (.pointer (some ad))).run P w = .ok ad w := rfl
theorem Mb {t : TypeId} {ad : Addr} {v : Value} (h : (loadVar t ad).run P w = .ok v w) : (Instr.loadAt t (.pointer (some ad))).run P w = .ok v w := by
 unfold Instr.loadAt;rw [Ab Qx]; exact h
def Ags (V : View) (ρ : Nat → Value) (ag : Bool) (us : List Value) (y : SV) : Prop := if ag then Conc V ρ y (.agg ⟨us⟩) else ∃ v, us = [v] ∧ Conc V ρ y v
theorem Ta {V : View} {size off o : Nat} {ag : Bool} {vs : List Value} {oc : Option (List PV)} (hpos : 0 < size)
 (hp : ∀ cs, oc = some cs → PCells V cs ((vs.drop o).take cs.length)) (hl : LoadK oc off size ag K) :
 ∃ y, o + off + size ≤ vs.length ∧ K y [] ∧ Ags V ρ ag ((vs.drop (o + off)).take size) y := by
 obtain ⟨x, cs, e, hle, hx, hf, hK⟩ := hl.old;have hp := hp cs e;have hlen := hp.1;simp only [List.length_take, List.length_drop] at hlen;have hpc := (hp.split off).2.split size |>.1;have e2 : (((vs.drop o).take cs.length).drop off).take size = (vs.drop (o + off)).take size := by
  rw [List.drop_take, List.take_take, List.drop_drop, Nat.min_eq_left (by omega)]
 rw [e2] at hpc;exact ⟨x, by omega, hK, Ao3 (ρ := ρ) hf hx hpc (by simp; omega)⟩
theorem Zm {V : View} {t : TypeId} {size off : Nat} {ag : Bool} {b : Nat} {vs : List Value} {ty fr} {y : SV} (hz : Ai P t = some size) (hag : Fl P t = some ag)
 (h : w.heap[b]? = some (.cells ⟨vs⟩ ty fr)) (hn : off + size ≤ vs.length) (hp : Ags V ρ ag ((vs.drop off).take size) y) :
 ∃ v, (loadVar t ⟨b, off, none⟩).run P w = .ok v w ∧ Conc V ρ y v := by
 cases ag with
 | true => simp only [Ags, if_true] at hp; exact ⟨_, Ud hz hag h hn (by simp), hp⟩
 | false =>
   simp only [Ags, Bool.false_eq_true, if_false] at hp;obtain ⟨v, e3, hcv⟩ := hp;exact ⟨v, Ud hz hag h hn (by simp [e3]), hcv⟩
theorem Xg {V : View} {t : TypeId} {size off o : Nat} {ag : Bool} {b : Nat} {c : Array Value} {ty fr} {oc : Option (List PV)} (hpos : 0 < size) (hz : Ai P t = some size) (hag : Fl P t = some ag)
 (h : w.heap[b]? = some (.cells c ty fr)) (hp : ∀ cs, oc = some cs → PCells V cs ((c.toList.drop o).take cs.length)) (hl : LoadK oc off size ag K) :
 ∃ v y, (loadVar t ⟨b, o + off, none⟩).run P w = .ok v w ∧ K y [] ∧ Conc V ρ y v := by
 obtain ⟨y, h1, h2, h3⟩ := Ta (ρ := ρ) hpos hp hl;obtain ⟨v, h4, h5⟩ := Zm (vs := c.toList) hz hag (by simpa using h) h1 h3;exact ⟨v, y, h4, h2, h5⟩
theorem Ie {O : Nat → Prop} {b : Nat} {arr : Array Value} (h : Am w O b = some arr) : ¬ O b ∧ ∃ ty fr, w.heap[b]? = some (.cells arr ty fr) := by
 unfold Am at h;split at h
 · cases h
 · rename_i ho;refine ⟨ho, ?_⟩;obtain ⟨ty, fr, hc, _⟩ := Kt h;exact ⟨ty, fr, hc⟩
theorem Td {V : View} {size off : Nat} {ag : Bool} {vs : List Value} {x : SV} {u : Value} (hpos : 0 < size)
 (hu : Conc V ρ x u) (hvs : vs = Ar u) (hw : vs.length = x.width) (ho : ∀ c ∈ vs, A3 c) (hl : M5 x off size ag K) :
 ∃ y, off + size ≤ vs.length ∧ K y [] ∧ Ags V ρ ag ((vs.drop off).take size) y := by
 unfold M5 Xd at hl;split at hl
 · rename_i v' hb;obtain ⟨l', hcut, hmk⟩ := Option.bind_eq_some_iff.1 hb;have hs := Qk hu (hvs ▸ hw) (hvs ▸ ho);rw [← hvs] at hs;obtain ⟨h1, h2⟩ := Ait hcut hs;exact ⟨v', h1, hl, Asz hmk h2⟩
 · have := Ta (ρ := ρ) (o := 0) (vs := vs) hpos (fun cs e => by
    have := hu.cells e;rw [← hvs] at this;simp only [List.drop_zero]; rw [List.take_of_length_le (by simp [this.1])]; exact this) hl
   simpa using this
theorem Ath {V : View} {t : TypeId} {size off : Nat} {ag : Bool} {b : Nat} {vs : List Value} {ty fr} {x : SV} {u : Value} (hpos : 0 < size) (hz : Ai P t = some size) (hag : Fl P t = some ag)
 (h : w.heap[b]? = some (.cells ⟨vs⟩ ty fr)) (hu : Conc V ρ x u) (hvs : vs = Ar u) (hw : vs.length = x.width) (ho : ∀ c ∈ vs, A3 c) (hl : M5 x off size ag K) :
 ∃ v y, (loadVar t ⟨b, off, none⟩).run P w = .ok v w ∧ K y [] ∧ Conc V ρ y v := by
 obtain ⟨y, h1, h2, h3⟩ := Td hpos hu hvs hw ho hl;obtain ⟨v, h4, h5⟩ := Zm hz hag h h1 h3;exact ⟨v, y, h4, h2, h5⟩
theorem Hu {V : View} {sz i : Nat} {es : List (List PV)} {n : Nat} (h : Own w V ρ n (.row sz es)) (hi : i < es.length) :
 ∃ b len cap vs ty fr, ρ n = .slice (some ⟨b, 0, none⟩) len cap ∧ w.heap[b]? = some (.cells ⟨vs⟩ ty fr) ∧ rowFroz sz fr vs.length ∧ (∀ c ∈ vs, A3 c) ∧ vs.length = cap * sz ∧ es.length ≤ cap ∧ cap ≠ 0 ∧ 0 < sz ∧
  (∀ c ∈ es, c.length = sz) ∧ len = es.length ∧ (∀ i c, es[i]? = some c → PCells V c ((vs.drop (i * sz)).take sz)) := by
 obtain ⟨base, cap, h1, h2, h3, h4, h5⟩ := h;have hc : cap ≠ 0 := by omega
 obtain ⟨b, vs, ty, fr, rfl, e2, e3, e4, e5, e6⟩ := h5 hc;exact ⟨b, _, cap, vs, ty, fr, h1, e2, e4, e5, e3, h2, hc, h3, h4, rfl, e6⟩
theorem Ak3 {t : TypeId} {size : Nat} {ag : Bool} {x : SV} {v : Value} (hR : RelR F N ρ s a w) (hc : Conc (vw F w ρ s) ρ x v) (hpos : 0 < size) (hz : Ai P t = some size) (hag : Fl P t = some ag)
 (h : Hq s.h size ag x K) : ∃ v' y, (Instr.loadAt t v).run P w = .ok v' w ∧ K y [] ∧ Conc (vw F w ρ s) ρ y v' := by
 cases x with
 | p n off =>
   simp only [Hq, ldV] at h;split at h
   · rename_i x hn;obtain ⟨b, vs, ty, fr, u, h1, h2, h3, h4, h5, h6, h7⟩ := hR.own n _ hn;simp only [Conc] at hc;obtain ⟨b', e1, rfl⟩ := hc;rw [h1] at e1; cases e1;obtain ⟨v', y, k1, k2⟩ := Ath hpos hz hag h2 h4 h5 h6 h7 h;exact ⟨v', y, Mb k1, k2⟩
   · exact h.elim
 | ps n off =>
   simp only [Hq, ldS] at h;split at h
   · rename_i x hn;obtain ⟨b, vs, ty, fr, u, h1, h2, h3, h4, h5, h6, h7⟩ := hR.own n _ hn;simp only [Conc] at hc;obtain ⟨b', e1, rfl⟩ := hc;rw [h1] at e1; cases e1;obtain ⟨v', y, k1, k2⟩ := Xg (ρ := ρ) (o := 0) hpos hz hag h2 (fun cs e => by
      have := h4.cells e;rw [← h5] at this;simp only [List.drop_zero]; rw [List.take_of_length_le (by simp [this.1])]; exact this) h
     exact ⟨v', y, Mb (by simpa using k1), k2⟩
   · exact h.elim
 | pr n sz i off =>
   simp only [Hq, ldR] at h;split at h
   · rename_i sz' es hn;obtain ⟨rfl, h⟩ := h;have hi : i < es.length := by
      obtain ⟨x, cs, e, _⟩ := LoadK.old h;exact (List.getElem?_eq_some_iff.1 e).1
     obtain ⟨b, len, cap, vs, ty, fr, h1, h2, h3, h4, h5, h6, h7, h8, h9, h10, h11⟩ := Hu (hR.own n _ hn) hi;simp only [Conc] at hc;obtain ⟨b', l, c, e1, rfl⟩ := hc;rw [h1] at e1; cases e1;obtain ⟨v', y, k1, k2⟩ := Xg (ρ := ρ) (o := i * sz) hpos hz hag h2 (fun cs e => by
      rw [h9 cs (List.mem_of_getElem? e)]; exact h11 i cs e) h
     exact ⟨v', y, Mb k1, k2⟩
   · exact h.elim
 | pi sz es i off =>
   simp only [Hq] at h;simp only [Conc] at hc;obtain ⟨b, o, arr, rfl, hV, hel⟩ := hc;obtain ⟨_, ty, fr, hb⟩ := Ie hV;obtain ⟨v', y, k1, k2⟩ := Xg (ρ := ρ) (o := o + i * sz) hpos hz hag hb (fun cs e => by
    have := hel cs e;rw [this.1]; exact this.2) h
   exact ⟨v', y, Mb (by rw [← Nat.add_assoc]; exact k1), k2⟩
 | _ => exact h.elim
end Go.Proofs.YthiamojjhdcegaaGreat.Fw
namespace Go.Proofs.YthiamojjhdcegaaGreat.Fw
variable [Th]
open Go.RowKit
variable {P : Program} {F : Fr} {N : Nat} {ρ : Nat → Value} {s : FS} {a : Act} {w w' : World} {K : KK}
theorem Ka {α : Type} (vs us : List α) (p : Nat) (h : p + us.length ≤ vs.length) (k : Nat) :
 (vs.take p ++ us ++ vs.drop (p + us.length))[k]? = if k < p then vs[k]? else if k < p + us.length then us[k - p]? else vs[k]? := by
 have hp : (vs.take p).length = p := by simp; omega
 by_cases h1 : k < p
 · rw [if_pos h1, List.getElem?_append_left (by simp; omega), List.getElem?_append_left (by omega), List.getElem?_take, if_pos h1]
 · rw [if_neg h1];by_cases h2 : k < p + us.length
   · rw [if_pos h2, List.getElem?_append_left (by simp; omega), List.getElem?_append_right (by omega), hp]
   · rw [if_neg h2, List.getElem?_append_right (by simp; omega), List.getElem?_drop];congr 1; simp; omega
theorem Co {α : Type} (vs us : List α) (p : Nat) (h : p + us.length ≤ vs.length) : (vs.take p ++ us ++ vs.drop (p + us.length)).length = vs.length := by
 simp; omega
theorem PCells.splice {V : View} {cs ys : List PV} {vs us : List Value} {off : Nat} (h : PCells V cs vs) (k : PCells V ys us) (hn : off + us.length ≤ vs.length) :
 PCells V (Fw.splice cs off ys) (vs.take off ++ us ++ vs.drop (off + us.length)) := by
 unfold Fw.splice;have h1 := h.1; have h2 := k.1;refine ⟨by rw [Co _ _ _ hn, Co _ _ _ (by omega)]; exact h1, fun j x hj => ?_⟩;rw [Ka _ _ _ (by omega)] at hj;rw [Ka _ _ _ hn, ← h2];split at hj
 · rename_i e; rw [if_pos e]; exact h.2 j x hj
 · rename_i e; rw [if_neg e];split at hj
   · rename_i e2; rw [if_pos e2]; exact k.2 _ x hj
   · rename_i e2; rw [if_neg e2]; exact h.2 j x hj
theorem Mq (u : Value) : u.cells.size = (Ar u).length := by rw [← Fy]; simp
theorem G2 {t : TypeId} {size : Nat} {b off : Nat} {vs : List Value} {ty fr} {u : Value} (hz : Ai P t = some size) (h : w.heap[b]? = some (.cells ⟨vs⟩ ty fr)) (hf : noFroz fr vs.length)
 (hlen : (Ar u).length = size) (ho : ∀ c ∈ Ar u, A3 c) (hn : off + size ≤ vs.length) :
 ∃ w', (Instr.storeAt t (.pointer (some ⟨b, off, none⟩)) u).run P w = .ok () w' ∧ Wrote w w' b (vs.take off ++ Ar u ++ vs.drop (off + size)) ty fr := by
 obtain ⟨w', h1, h2⟩ := Fp (P := P) (Ar u) 0 (off := off) h hf ho (by omega);refine ⟨w', ?_, by simpa [hlen] using h2⟩;unfold Instr.storeAt;rw [Ab Qx];unfold storeVar;rw [Ab (Ce hz w)];simp only [Mq, hlen, ne_eq, not_true_eq_false, if_false, Fy];simpa using h1
theorem RelR.wrote (hR : RelR F N ρ s a w) {n : Nat} {old blk : Blk} {b : Nat} {vs : List Value} {ty fr} (hn : s.h n = some old) (hb : Cf (ρ n) = some b) (hw : Wrote w w' b vs ty fr)
 (hown : Own w' (vw F w ρ s) ρ n blk) : RelR F N ρ (s.hup [.upd n blk]) a w' :=
 (hR.upd n old blk hn b hb hw.os hw.tape hw.output hw.size hw.block hown).1
theorem Abv {V : View} {n b : Nat} {vs : List Value} {ty fr} {x : SV} {u : Value} (h1 : ρ n = .pointer (some ⟨b, 0, none⟩)) (h2 : w.heap[b]? = some (.cells ⟨vs⟩ ty fr)) (hf : noFroz fr vs.length)
 (hx : Conc V ρ x u) (hvs : vs = Ar u) (hl : vs.length = x.width) (ho : ∀ c ∈ vs, A3 c) : Own w V ρ n (.var x) := ⟨b, vs, ty, fr, u, h1, h2, hf, hx, hvs, hl, ho⟩
theorem Wf {t : TypeId} {size off n b : Nat} {x y : SV} {v u : Value} {vs : List Value} {ty fr} (hR : RelR F N ρ s a w) (hz : Ai P t = some size)
 (hn : s.h n = some (.var x)) (h1 : ρ n = .pointer (some ⟨b, 0, none⟩)) (h2 : w.heap[b]? = some (.cells ⟨vs⟩ ty fr)) (h3 : noFroz fr vs.length) (h4 : Conc (vw F w ρ s) ρ x v) (h5 : vs = Ar v)
 (h6 : vs.length = x.width) (h7 : ∀ c ∈ vs, A3 c) (hy : Conc (vw F w ρ s) ρ y u) (hyw : y.width = size) (hyf : y.flatB = true) (h : H8 n x.width off size x.cells? y.cells? K) :
 ∃ w' hu, (Instr.storeAt t (.pointer (some ⟨b, off, none⟩)) u).run P w = .ok () w' ∧ K .dead hu ∧ RelR F N ρ (s.hup hu) a w' := by
 unfold H8 at h;split at h
 · rename_i cs ys hcs hys;obtain ⟨hle, hK⟩ := h;have hyl := hy.flat hyf;rw [hyw] at hyl;obtain ⟨w', hr, hw⟩ := G2 (P := P) hz h2 h3 hyl.1 hyl.2 (off := off) (by omega);refine ⟨w', _, hr, hK, hR.wrote hn (by rw [h1]; rfl) hw ?_⟩;have hp := h4.cells hcs;rw [← h5] at hp;have hq := PCells.splice hp (hy.cells hys) (off := off) (by omega);rw [hyl.1] at hq;have hlen := Co vs (Ar u) off (by omega);rw [hyl.1] at hlen;exact Abv (u := .agg ⟨vs.take off ++ Ar u ++ vs.drop (off + size)⟩) h1 hw.here (by rw [hlen]; exact h3) (by simp only [Conc]; exact ⟨_, rfl, by rw [hlen, h6], hq⟩) rfl (by rw [hlen, h6]; rfl) hq.one
 · exact h.elim
theorem A8l {t : TypeId} {size : Nat} {x y : SV} {v u : Value} (hR : RelR F N ρ s a w) (hx : Conc (vw F w ρ s) ρ x v) (hy : Conc (vw F w ρ s) ρ y u) (hz : Ai P t = some size)
 (h : J8 s.h size x y K) : ∃ w' hu, (Instr.storeAt t v u).run P w = .ok () w' ∧ K .dead hu ∧ RelR F N ρ (s.hup hu) a w' := by
 cases x with
 | p n off =>
   simp only [J8, stV] at h;split at h
   · rename_i x hn;obtain ⟨hyw, hyf, h⟩ := h;obtain ⟨b, vs, ty, fr, u0, h1, h2, h3, h4, h5, h6, h7⟩ := hR.own n _ hn;simp only [Conc] at hx;obtain ⟨b', e1, rfl⟩ := hx;rw [h1] at e1; cases e1;have hyl := hy.flat hyf;unfold T6 at h;split at h
     · rename_i e; obtain ⟨rfl, e⟩ := e;obtain ⟨w', hr, hw⟩ := G2 (P := P) hz h2 h3 (by rw [hyl.1, hyw]) hyl.2 (off := 0) (by omega);refine ⟨w', _, hr, h, hR.wrote hn (by rw [h1]; rfl) hw ?_⟩;have hw := hw.here;rw [List.take_zero, List.nil_append, List.drop_of_length_le (by omega), List.append_nil] at hw;exact Abv h1 hw (by rw [hyl.1, hyw, e, ← h6]; exact h3) hy rfl hyl.1 hyl.2
     · unfold T7 at h;split at h
       · rename_i l hl;have hs := Qk h4 (h5 ▸ h6) (h5 ▸ h7);rw [← h5] at hs;obtain ⟨k1, k2⟩ := Aha hl hs (M7 hy hyf);obtain ⟨w', hr, hw⟩ := G2 (P := P) hz h2 h3 (by rw [hyl.1, hyw]) hyl.2 k1;refine ⟨w', _, hr, h, hR.wrote hn (by rw [h1]; rfl) hw ?_⟩;have hlen := Co vs (Ar u) off (by rw [hyl.1, hyw]; exact k1);rw [hyl.1, hyw] at hlen;exact Abv (u := .agg ⟨vs.take off ++ Ar u ++ vs.drop (off + size)⟩) h1 hw.here (by rw [hlen]; exact h3) (by simp only [Conc]; exact ⟨_, rfl, k2⟩) rfl k2.facts.1 k2.facts.2
       · exact Wf hR hz hn h1 h2 h3 h4 h5 h6 h7 hy hyw hyf h
   · exact h.elim
 | ps n off =>
   simp only [J8, stS] at h;split at h
   · rename_i x hn;obtain ⟨hyw, hyf, h⟩ := h;obtain ⟨b, vs, ty, fr, u0, h1, h2, h3, h4, h5, h6, h7⟩ := hR.own n _ hn;simp only [Conc] at hx;obtain ⟨b', e1, rfl⟩ := hx;rw [h1] at e1; cases e1;exact Wf hR hz hn h1 h2 h3 h4 h5 h6 h7 hy hyw hyf h
   · exact h.elim
 | pr n sz i off =>
   simp only [J8, stR] at h;split at h
   · rename_i sz' es hn;obtain ⟨hyw, hyf, rfl, h⟩ := h;unfold Sq at h;split at h
     · rename_i ys hys;obtain ⟨hi, hle, h⟩ := h;obtain ⟨b, len, cap, vs, ty, fr, h1, h2, h3, h4, h5, h6, h7, h8, h9, rfl, h11⟩ := Hu (hR.own n _ hn) hi;simp only [Conc] at hx;obtain ⟨b', l, c, e1, rfl⟩ := hx;rw [h1] at e1; cases e1;have hyl := hy.flat hyf;rw [hyw] at hyl;have hin : (i + 1) * sz ≤ vs.length := by rw [h5]; exact Nat.mul_le_mul_right _ (by omega)
       have hin' : i * sz + sz ≤ vs.length := by rw [Nat.succ_mul] at hin; exact hin
       obtain ⟨w', hr, hw⟩ := G2 (P := P) hz h2 h3.no hyl.1 hyl.2 (off := i * sz + off) (by omega);refine ⟨w', _, hr, h, hR.wrote hn (by rw [h1]; simp [Cf, h7]) hw ?_⟩;have hlen := Co vs (Ar u) (i * sz + off) (by omega);have hget := Ka vs (Ar u) (i * sz + off) (by omega);rw [hyl.1] at hlen hget;have hei : es[i]? = some es[i] := List.getElem?_eq_getElem hi;have hyc := hy.cells hys;have hc0 := h11 i _ hei;have hl0 : es[i].length = sz := h9 _ (List.getElem_mem hi);have hlen2 : ys.length = size := by rw [hyc.1, hyl.1]
       have hgd : es.getD i [] = es[i] := by simp [List.getD_eq_getElem?_getD, hi]
       have hsl : (Fw.splice es[i] off ys).length = sz := by unfold Fw.splice; rw [Co _ _ _ (by omega)]; exact hl0
       refine ⟨some ⟨b, 0, none⟩, cap, by rw [h1]; simp, by simpa using h6, h8, ?_, fun _ => ⟨b, _, ty, fr, rfl, hw.here, by rw [hlen, h5], by rw [hlen]; exact h3, ?_, ?_⟩⟩
       · intro c hc;rcases List.mem_or_eq_of_mem_set hc with hc | rfl
         · exact h9 c hc
         · rw [hgd]; exact hsl
       · intro c hc;simp only [List.mem_append] at hc;rcases hc with (hc | hc) | hc
         · exact h4 c (List.mem_of_mem_take hc)
         · exact hyl.2 c hc
         · exact h4 c (List.mem_of_mem_drop hc)
       · intro j c hj;by_cases hij : i = j
         · subst hij;rw [List.getElem?_set_self hi, hgd] at hj; cases hj;have := PCells.splice hc0 hyc (off := off) (by simp [hyl.1]; omega);refine ⟨by rw [hsl]; simp; omega, fun q x hq => ?_⟩;obtain ⟨v, a1, a2⟩ := this.2 q x hq;refine ⟨v, ?_, a2⟩;have hqlt : q < sz := by have := (List.getElem?_eq_some_iff.1 hq).1; omega
           rw [Ka _ _ _ (by simp [hyl.1]; omega)] at a1;rw [List.getElem?_take, if_pos hqlt, List.getElem?_drop, hget];rw [hyl.1] at a1;by_cases q1 : q < off
           · rw [if_pos q1] at a1;rw [if_pos (by omega)];rw [List.getElem?_take, if_pos hqlt, List.getElem?_drop] at a1; exact a1
           · rw [if_neg q1] at a1; rw [if_neg (by omega)];by_cases q2 : q < off + size
             · rw [if_pos q2] at a1; rw [if_pos (by omega), show i * sz + q - (i * sz + off) = q - off from by omega]; exact a1
             · rw [if_neg q2] at a1; rw [if_neg (by omega)];rw [List.getElem?_take, if_pos hqlt, List.getElem?_drop] at a1; exact a1
         · rw [List.getElem?_set_ne hij] at hj;have hcj := h11 j c hj;have hjl : c.length = sz := h9 c (List.mem_of_getElem? hj);have hjlt : j < es.length := (List.getElem?_eq_some_iff.1 hj).1;have hjn : j * sz + sz ≤ vs.length := by
            have : (j + 1) * sz ≤ cap * sz := Nat.mul_le_mul_right _ (by omega);rw [Nat.succ_mul] at this; omega
           have hsep : j * sz + sz ≤ i * sz ∨ i * sz + sz ≤ j * sz := by
            rcases Nat.lt_or_gt_of_ne hij with e | e
            · right; have : (i + 1) * sz ≤ j * sz := Nat.mul_le_mul_right _ e;rw [Nat.succ_mul] at this; exact this
            · left; have : (j + 1) * sz ≤ i * sz := Nat.mul_le_mul_right _ e;rw [Nat.succ_mul] at this; exact this
           refine ⟨by rw [hjl]; simp; omega, fun q x hq => ?_⟩;obtain ⟨v, a1, a2⟩ := hcj.2 q x hq;have hqlt : q < sz := by have := (List.getElem?_eq_some_iff.1 hq).1; omega
           refine ⟨v, ?_, a2⟩;rw [List.getElem?_take, if_pos hqlt, List.getElem?_drop] at a1 ⊢;rw [hget];rcases hsep with e | e
           · rw [if_pos (by omega)]; exact a1
           · rw [if_neg (by omega), if_neg (by omega)]; exact a1
     · exact h.elim
   · exact h.elim
 | _ => exact h.elim
end Go.Proofs.YthiamojjhdcegaaGreat.Fw
namespace Go.Proofs.YthiamojjhdcegaaGreat.Fw
variable [Th]
open Go.RowKit
variable {P : Program} {F : Fr} {N : Nat} {ρ : Nat → Value} {s : FS} {a : Act} {w w' : World} {K : KK} {V : View}
def Tells (P : Program) (V : View) (ρ : Nat → Value) (w : World) (m : Sem Value) (K : KK) : Prop := ∃ v x, m.run P w = .ok v w ∧ K x [] ∧ Conc V ρ x v
theorem Tells.mk {m : Sem Value} {v x} (h : m.run P w = .ok v w) (hk : K x []) (hc : Conc V ρ x v) : Tells P V ρ w m K := ⟨v, x, h, hk, hc⟩
theorem Dj {k n} : Conc V ρ (.pv (.i k n)) (.int k n) := by simp only [Conc]; exact .i k n
theorem E5 {x} : Conc V ρ (.pv (.b x)) (.bool x) := by simp only [Conc]; exact .b x
theorem Ts {l : List UInt8} : Conc V ρ (.pv (.s l)) (.string ⟨l.toArray⟩) := by simp only [Conc]; exact .s l
theorem Fi {k n v} (h : Conc V ρ (.pv (.i k n)) v) : v = .int k n := by simp only [Conc] at h; cases h; rfl
theorem Pq {x v} (h : Conc V ρ (.pv (.b x)) v) : v = .bool x := by simp only [Conc] at h; cases h; rfl
theorem M6 {l v} (h : Conc V ρ (.pv (.s l)) v) : v = .string ⟨l.toArray⟩ := by simp only [Conc] at h; cases h; rfl
theorem Sl (l : List UInt8) : (ByteArray.mk l.toArray).toList = l := by rw [Lib.toList_data]
theorem Avr (x y : List UInt8) : (x == y) = decide (x = y) := by by_cases h : x = y <;> simp [h]
theorem H9 (l : List UInt8) : (ByteArray.mk l.toArray).size = l.length := by simp [ByteArray.size]
theorem Dt (op : BinOp) (t : TypeId) (ox oy : Operand) (u v : Value) (h : ∀ c, u ≠ .agg c) (hn : u ≠ .nilIface) : (eqGuard op t ox oy u v).run P w = .ok () w := by
 cases op <;> cases u <;> cases v <;> first | exact absurd rfl hn | exact absurd rfl (h _) | rfl
theorem A04 {op : BinOp} {t : TypeId} {k k' x y} (h : Pl op k k' x y K) : Tells P V ρ w (binOp op t (.int k x) (.int k' y)) K := by
 cases op <;> simp only [Pl] at h
 case add => obtain ⟨rfl, h⟩ := h; exact .mk (by simp [binOp, Op.intArith]) h Dj
 case sub => obtain ⟨rfl, h⟩ := h; exact .mk (by simp [binOp, Op.intArith]) h Dj
 case mul => obtain ⟨rfl, h⟩ := h; exact .mk (by simp [binOp, Op.intArith]) h Dj
 case quo => obtain ⟨rfl, h0, h⟩ := h; exact .mk (by simp [binOp, Op.intDiv, h0]) h Dj
 case rem => obtain ⟨rfl, h0, h⟩ := h; exact .mk (by simp [binOp, Op.intDiv, h0]) h Dj
 case and => obtain ⟨rfl, h⟩ := h; exact .mk (by simp [binOp, intBits_and]) h Dj
 case or => obtain ⟨rfl, h⟩ := h; exact .mk (by simp [binOp, intBits_or]) h Dj
 case xor => obtain ⟨rfl, h⟩ := h; exact .mk (by simp [binOp, intBits_xor]) h Dj
 case andNot => obtain ⟨rfl, h⟩ := h; exact .mk (by simp [binOp, intBits_andNot]) h Dj
 case shl => obtain ⟨h0, h⟩ := h; exact .mk (by simp [binOp, Op.shift, Int.not_lt.2 h0]) h Dj
 case shr => obtain ⟨h0, h⟩ := h; exact .mk (by simp [binOp, Op.shift, Int.not_lt.2 h0]) h Dj
 case eql => obtain ⟨rfl, h⟩ := h; exact .mk (v := .bool (decide (x = y))) (by simp [binOp, Op.intCmp]; rfl) h E5
 case neq => obtain ⟨rfl, h⟩ := h; exact .mk (v := .bool (!decide (x = y))) (by simp [binOp, Op.intCmp, bne]; rfl) h E5
 case lss => obtain ⟨rfl, h⟩ := h; exact .mk (by simp [binOp, Op.intCmp]) h E5
 case leq => obtain ⟨rfl, h⟩ := h; exact .mk (by simp [binOp, Op.intCmp]) h E5
 case gtr => obtain ⟨rfl, h⟩ := h; exact .mk (by simp [binOp, Op.intCmp]) h E5
 case geq => obtain ⟨rfl, h⟩ := h; exact .mk (by simp [binOp, Op.intCmp]) h E5
theorem A03 {op : BinOp} {t : TypeId} {x y : List UInt8} (h : Y3 op x y K) : Tells P V ρ w (binOp op t (.string ⟨x.toArray⟩) (.string ⟨y.toArray⟩)) K := by
 cases op <;> simp only [Y3] at h
 case add =>
  obtain ⟨h0, h⟩ := h;refine .mk (v := .string ⟨(x ++ y).toArray⟩) ?_ h Ts;have : ¬ ((x.length : Int) + y.length > IntKind.i64.max) := by simp [IntKind.max, IntKind.signed, IntKind.bits]; omega
  simp only [binOp, Op.stringOp, H9];rw [if_neg (by push_cast; exact this)];simp only [Sem.run_pure];congr 2
 all_goals (try exact h.elim)
 all_goals (refine .mk (by simp only [binOp, Op.stringOp, Sl, Avr, Sem.run_pure]) h E5)
theorem Acw {t : TypeId} {x y : Bool} (ht : P.underlying t = some .bool) (d : Nat) : (Op.equalIn (d + 1) t (.bool x) (.bool y)).run P w = .ok (decide (x = y)) w := by
 unfold Op.equalIn;rw [Ab (Fw.run_underlying ht w)];cases x <;> cases y <;> rfl
theorem A05 {op : BinOp} {t : TypeId} {x y : Bool} (ht : P.underlying t = some .bool) (h : binB op x y K) : Tells P V ρ w (binOp op t (.bool x) (.bool y)) K := by
 have he : (Op.equal t (.bool x) (.bool y)).run P w = .ok (decide (x = y)) w := Acw ht 9999;cases op <;> simp only [binB] at h <;> (try exact h.elim)
 case eql => exact .mk (v := .bool (decide (x = y))) (by simp only [binOp]; rw [Ab he]; rfl) h E5
 case neq => exact .mk (v := .bool (!decide (x = y))) (by simp only [binOp]; rw [Ab he]; rfl) h E5
theorem Avk {op : BinOp} {t : TypeId} {x y : SV} {v u : Value} (hx : Conc V ρ x v) (hy : Conc V ρ y u) (h : N6 op x y K) (ox oy : Operand) :
 Tells P V ρ w (do eqGuard op t ox oy v u; binOp op t v u) K := by
 unfold N6 at h;split at h
 · cases Fi hx; cases Fi hy;obtain ⟨r, z, h1, h2⟩ := A04 (P := P) (V := V) (ρ := ρ) (w := w) (t := t) h;exact ⟨r, z, by rw [Ab (Dt _ _ _ _ _ _ (by simp) (by simp))]; exact h1, h2⟩
 · cases M6 hx; cases M6 hy;obtain ⟨r, z, h1, h2⟩ := A03 (P := P) (V := V) (ρ := ρ) (w := w) (t := t) h;exact ⟨r, z, by rw [Ab (Dt _ _ _ _ _ _ (by simp) (by simp))]; exact h1, h2⟩
 · exact h.elim
theorem Avp {op : BinOp} {t : TypeId} {x y : Bool} {v u : Value} (ht : P.underlying t = some .bool) (hx : Conc V ρ (.pv (.b x)) v) (hy : Conc V ρ (.pv (.b y)) u) (h : binB op x y K) (ox oy : Operand) :
 Tells P V ρ w (do eqGuard op t ox oy v u; binOp op t v u) K := by
 cases Pq hx; cases Pq hy;obtain ⟨r, z, h1, h2⟩ := A05 (P := P) (V := V) (ρ := ρ) (w := w) ht h;exact ⟨r, z, by rw [Ab (Dt _ _ _ _ _ _ (by simp) (by simp))]; exact h1, h2⟩
theorem A8c {op : UnOp} {x : SV} {v : Value} (hx : Conc V ρ x v) (h : V2 op x K) : Tells P V ρ w (Op.unary op v) K := by
 unfold V2 at h;split at h
 · cases Pq hx; split at h
   · exact .mk rfl h E5
   · exact h.elim
 · cases Fi hx; split at h
   · exact .mk (by simp [Op.unary, Op.intArith]) h Dj
   · exact h.elim
 · exact h.elim
theorem Baa {x y : SV} {v u : Value} {ts t} (hx : Conc V ρ x v) (hy : Conc V ρ y u) (h : Po true x y K) : Tells P V ρ w (Builtin.max_ ts t #[v, u]) K := by
 unfold Po at h;split at h
 · cases Fi hx; cases Fi hy;obtain ⟨rfl, h⟩ := h;rename_i k a b;refine .mk (v := .int k (max a b)) ?_ h Dj;have : (if b > a then b else a) = max a b := by simp only [Int.max_def]; split <;> split <;> omega
   simp [Builtin.max_, Builtin.max2, this]
 · exact h.elim
theorem Bab {x y : SV} {v u : Value} {ts t} (hx : Conc V ρ x v) (hy : Conc V ρ y u) (h : Po false x y K) : Tells P V ρ w (Builtin.min_ ts t #[v, u]) K := by
 unfold Po at h;split at h
 · cases Fi hx; cases Fi hy;obtain ⟨rfl, h⟩ := h;rename_i k a b;refine .mk (v := .int k (min a b)) ?_ h Dj;have : (if b < a then b else a) = min a b := by simp only [Int.min_def]; split <;> split <;> omega
   simp [Builtin.min_, Builtin.min2, this]
 · exact h.elim
end Go.Proofs.YthiamojjhdcegaaGreat.Fw
namespace Go.Proofs.YthiamojjhdcegaaGreat.Fw
variable [Th]
open Go.RowKit
variable {P : Program} {F : Fr} {N : Nat} {ρ : Nat → Value} {s : FS} {a : Act} {w w' : World} {K : KK} {V : View}
theorem Ij {k n} : (asIntOf (.int k n)).run P w = .ok (k, n) w := rfl
theorem Ba9 {t : TypeId} {f : Nat} {fs : Array Field} {fd : Field} {x : SV} {v : Value} (ht : P.underlying t = some (.struct fs)) (hf : fs[f]? = some fd) (hz : (Ai P fd.type).getD 0 ≠ 0)
 (hx : Conc V ρ x v) (h : Lr fd.offset x K) : Tells P V ρ w (Instr.fieldAt t v f) K := by
 have hzz : Ai P fd.type = some ((Ai P fd.type).getD 0) := by cases h : Ai P fd.type <;> simp_all
 have run : ∀ b off, (Instr.fieldAt t (.pointer (some ⟨b, off, none⟩)) f).run P w = .ok (.pointer (some ⟨b, off + fd.offset, none⟩)) w := fun b off => by
  unfold Instr.fieldAt;rw [Ab (Fw.run_underlying ht w)];simp only [hf];rw [Ab Qx];unfold fieldPlace;have : (do if (← sizeOf fd.type) = 0 then partAt ⟨b, off, none⟩ fd.offset fd.byteOffset else pure (Addr.add ⟨b, off, none⟩ fd.offset) : Sem Addr).run P w = .ok ⟨b, off + fd.offset, none⟩ w := by
   rw [Ab (Ce hzz w), if_neg hz, Dd]; rfl
  rw [Ab this]; rfl
 cases x <;> simp only [Lr] at h <;> (try exact h.elim) <;> simp only [Conc] at hx
 case p n o => obtain ⟨b, e, rfl⟩ := hx; exact .mk (run _ _) h (by simp only [Conc]; exact ⟨b, e, rfl⟩)
 case ps n o => obtain ⟨b, e, rfl⟩ := hx; exact .mk (run _ _) h (by simp only [Conc]; exact ⟨b, e, rfl⟩)
 case pr n z i o => obtain ⟨b, l, c, e, rfl⟩ := hx; exact .mk (run _ _) h (by simp only [Conc]; exact ⟨b, l, c, e, by rw [Nat.add_assoc]⟩)
 case pi z es i o => obtain ⟨b, q, arr, rfl, e⟩ := hx; exact .mk (run _ _) h (by simp only [Conc]; exact ⟨b, q, arr, by rw [Nat.add_assoc, Nat.add_assoc], e⟩)
theorem I8 {t e : TypeId} {n size : Nat} {k : IntKind} {j : Int} {b off : Nat} (ht : P.underlying t = some (.array n e)) (hz : Ai P e = some size) (h0 : 0 ≤ j) (h1 : j < n) :
 (Instr.indexAt t (.pointer (some ⟨b, off, none⟩)) (.int k j)).run P w = .ok (.pointer (some ⟨b, off + j.toNat * size, none⟩)) w := by
 unfold Instr.indexAt;rw [Ab Ij];simp only [bind_assoc];rw [Ab (Fw.run_underlying ht w)];simp only [bind_assoc];rw [Ab Qx];simp only [pure_bind];rw [Ab (Fw.run_underlying ht w)];simp only [h0, h1, and_self, if_true];rw [Ab (Ce hz w), Dd]; rfl
theorem Aic {t e : TypeId} {n size : Nat} {k : IntKind} {j : Int} {x : SV} {v : Value} (ht : P.underlying t = some (.array n e)) (hz : Ai P e = some size) (h0 : 0 ≤ j) (h1 : j < n)
 (hx : Conc V ρ x v) (h : Lr (j.toNat * size) x K) : Tells P V ρ w (Instr.indexAt t v (.int k j)) K := by
 cases x <;> simp only [Lr] at h <;> (try exact h.elim) <;> simp only [Conc] at hx
 case p n o => obtain ⟨b, e, rfl⟩ := hx; exact .mk (I8 ht hz h0 h1) h (by simp only [Conc]; exact ⟨b, e, rfl⟩)
 case ps n o => obtain ⟨b, e, rfl⟩ := hx; exact .mk (I8 ht hz h0 h1) h (by simp only [Conc]; exact ⟨b, e, rfl⟩)
 case pr n z i o => obtain ⟨b, l, c, e, rfl⟩ := hx; exact .mk (I8 ht hz h0 h1) h (by simp only [Conc]; exact ⟨b, l, c, e, by rw [Nat.add_assoc]⟩)
 case pi z es i o => obtain ⟨b, q, arr, rfl, e⟩ := hx; exact .mk (I8 ht hz h0 h1) h (by simp only [Conc]; exact ⟨b, q, arr, by rw [Nat.add_assoc, Nat.add_assoc], e⟩)
theorem Ue {t e : TypeId} {size : Nat} {k : IntKind} {j : Int} {b off len cap : Nat} (ht : P.underlying t = some (.slice e)) (hz : Ai P e = some size) (h0 : 0 ≤ j) (h1 : j < len) :
 (Instr.indexAt t (.slice (some ⟨b, off, none⟩) len cap) (.int k j)).run P w = .ok (.pointer (some ⟨b, off + j.toNat * size, none⟩)) w := by
 unfold Instr.indexAt;rw [Ab Ij];simp only [bind_assoc];rw [Ab (Fw.run_underlying ht w)];simp only [pure_bind];rw [Ab (Fw.run_underlying ht w)];simp only [h0, h1, and_self, if_true];rw [Ab (Ce hz w), Dd]; rfl
theorem L7 {full : Bool} {sz : Nat} {es : List (List PV)} {v : Value} (h : PConc V (.sl full sz es) v) {i : Nat} (hi : i < es.length) :
 ∃ b off cap arr, v = .slice (some ⟨b, off, none⟩) es.length cap ∧ V b = some arr ∧ ∀ c, es[i]? = some c → c.length = sz ∧ PCells V c ((arr.toList.drop (off + i * sz)).take sz) := by
 cases h with
 | sl _ _ _ a cap cs bl off arr hcap hfull hsz ha hcs hel =>
   have hne : es ≠ [] := by intro e; subst e; simp at hi
   obtain ⟨rfl, hV⟩ := ha hne;refine ⟨bl, off, cap, arr, rfl, hV, fun c hc => ?_⟩;have hl := hsz c (List.mem_of_getElem? hc);have hget : ∀ j, j < sz → (arr.toList.drop (off + i * sz))[j]? = some (cs i j) := fun j hj => by
    rw [List.getElem?_drop, Array.getElem?_toList, Nat.add_assoc]; exact hcs i j hi hj
   refine ⟨hl, ?_, fun j x hj => ?_⟩
   · rw [hl];simp only [List.length_take];have : sz ≤ (arr.toList.drop (off + i * sz)).length := by
      rcases Nat.eq_zero_or_pos sz with h0 | h0
      · omega
      · have := (List.getElem?_eq_some_iff.1 (hget (sz - 1) (by omega))).1; omega
     omega
   · have hlt : j < sz := by have := (List.getElem?_eq_some_iff.1 hj).1; omega
     exact ⟨cs i j, by rw [List.getElem?_take, if_pos hlt]; exact hget j hlt, hel i j c x hc hj⟩
theorem A5t {t e : TypeId} {size : Nat} {k : IntKind} {j : Int} {x : SV} {v : Value} (hR : RelR F N ρ s a w) (ht : P.underlying t = some (.slice e)) (hz : Ai P e = some size)
 (hx : Conc (vw F w ρ s) ρ x v) (h : Jz s.h size j x K) : Tells P (vw F w ρ s) ρ w (Instr.indexAt t v (.int k j)) K := by
 unfold Jz at h;split at h
 · rename_i full sz es;obtain ⟨h0, h1, rfl, h⟩ := h;simp only [Conc] at hx;have hi : j.toNat < es.length := by omega
   obtain ⟨b, off, cap, arr, rfl, hV, hel⟩ := L7 hx hi;refine .mk (Ue ht hz h0 h1) h ?_;simp only [Conc];exact ⟨b, off, arr, by simp, hV, fun c hc => hel c hc⟩
 · rename_i n;unfold Qc at h;split at h
   · rename_i sz es hn;obtain ⟨h0, h1, rfl, h⟩ := h;simp only [Conc] at hx;obtain ⟨hx, _⟩ := hx;have hi : j.toNat < es.length := by omega
     obtain ⟨b, len, cap, vs, ty, fr, e1, _, _, _, _, _, _, _, _, rfl, _⟩ := Hu (hR.own n _ hn) hi;rw [hx, e1];refine .mk (Ue ht hz h0 h1) h ?_;simp only [Conc];exact ⟨b, _, cap, e1, by simp⟩
   · exact h.elim
 · exact h.elim
theorem Wq {t : TypeId} {size off : Nat} {ag : Bool} {vs : List Value} {y : SV} (hz : Ai P t = some size) (hag : Fl P t = some ag) (hp : Ags V ρ ag ((vs.drop off).take size) y) :
 ∃ v, (part t ⟨vs⟩ off).run P w = .ok v w ∧ Conc V ρ y v := by
 unfold part;cases ag with
 | true =>
   simp only [Ags, if_true] at hp;refine ⟨_, ?_, hp⟩;rw [Ab (Lb hag w)];simp only [if_true];rw [Ab (Ce hz w)];simp only [Sem.run_pure];congr 2;apply Array.ext';simp [List.drop_take]
 | false =>
   simp only [Ags, Bool.false_eq_true, if_false] at hp;obtain ⟨v, e, hc⟩ := hp;refine ⟨v, ?_, hc⟩;rw [Ab (Lb hag w)];have := Adp e;simp only [Bool.false_eq_true, if_false];rw [show (Array.mk vs)[off]? = some v from by simpa using this]; rfl
theorem Oc {x : SV} {v : Value} (h : x.isAg = true) (hx : Conc V ρ x v) : ∃ vs, v = .agg ⟨vs⟩ ∧ vs = Ar v ∧ vs.length = x.width ∧ ∀ c ∈ vs, A3 c := by
 cases x <;> simp [SV.isAg] at h
 case vec n cs => simp only [Conc] at hx; obtain ⟨vs, rfl, h1, h2⟩ := hx; exact ⟨vs, rfl, rfl, h1, h2.one⟩
 case agg l => simp only [Conc] at hx; obtain ⟨vs, rfl, h1⟩ := hx; exact ⟨vs, rfl, rfl, h1.facts.1, h1.facts.2⟩
theorem A53 {t : TypeId} {f : Nat} {fs : Array Field} {fd : Field} {size : Nat} {ag : Bool} {x : SV} {v : Value} (ht : P.underlying t = some (.struct fs)) (hf : fs[f]? = some fd)
 (hpos : 0 < size) (hz : Ai P fd.type = some size) (hag : Fl P fd.type = some ag) (hx : Conc V ρ x v) (hxa : x.isAg = true) (h : M5 x fd.offset size ag K) : Tells P V ρ w (Instr.field t v f) K := by
 obtain ⟨vs, rfl, h1, h2, h3⟩ := Oc hxa hx;obtain ⟨y, _, hK, hp⟩ := Td hpos hx h1 h2 h3 h;obtain ⟨v', hr, hc⟩ := Wq (P := P) (w := w) hz hag hp;refine .mk ?_ hK hc;unfold Instr.field;rw [Ab (Fw.run_underlying ht w)];simp only [hf];rw [Ab (x := ⟨vs⟩) (w' := w) rfl]; exact hr
theorem Q4 {t e : TypeId} {n size : Nat} {k : IntKind} {j : Int} {vs : List Value} {v : Value} (ht : P.underlying t = some (.array n e)) (hz : Ai P e = some size) (h0 : 0 ≤ j) (h1 : j < n)
 (hp : (part e ⟨vs⟩ (j.toNat * size)).run P w = .ok v w) : (Instr.index t (.agg ⟨vs⟩) (.int k j)).run P w = .ok v w := by
 unfold Instr.index;rw [Ab Ij, Ab (Fw.run_underlying ht w)];simp only [h0, h1, and_self, if_true];rw [Ab (Ce hz w)]; exact hp
theorem Az3 {t e : TypeId} {n size : Nat} {k : IntKind} {j : Int} {ag : Bool} {x : SV} {v : Value} (ht : P.underlying t = some (.array n e)) (hpos : 0 < size) (hz : Ai P e = some size) (hag : Fl P e = some ag)
 (h0 : 0 ≤ j) (h1 : j < n) (hx : Conc V ρ x v) (hxa : x.isAg = true) (h : M5 x (j.toNat * size) size ag K) : Tells P V ρ w (Instr.index t v (.int k j)) K := by
 obtain ⟨vs, rfl, g1, g2, g3⟩ := Oc hxa hx;obtain ⟨y, _, hK, hp⟩ := Td hpos hx g1 g2 g3 h;obtain ⟨v', hr, hc⟩ := Wq (P := P) (w := w) hz hag hp;exact .mk (Q4 ht hz h0 h1 hr) hK hc
theorem A5j {t e : TypeId} {n size : Nat} {k : IntKind} {j : Int} {ag : Bool} {x : SV} {v : Value} (ht : P.underlying t = some (.array n e)) (hpos : 0 < size) (hz : Ai P e = some size) (hag : Fl P e = some ag)
 (h0 : 0 ≤ j) (h1 : j < n) (hx : Conc V ρ x v) (hxa : x.isAg = true) (h : LoadK x.cells? (j.toNat * size) size ag K) : Tells P V ρ w (Instr.index t v (.int k j)) K := by
 obtain ⟨vs, rfl, g1, g2, g3⟩ := Oc hxa hx;obtain ⟨y, _, hK, hp⟩ := Ta (ρ := ρ) (o := 0) (vs := vs) hpos (fun cs e => by
  have := hx.cells e;rw [← g1] at this;simp only [List.drop_zero]; rw [List.take_of_length_le (by simp [this.1])]; exact this) h
 simp only [Nat.zero_add] at hp;obtain ⟨v', hr, hc⟩ := Wq (P := P) (w := w) hz hag hp;exact .mk (Q4 ht hz h0 h1 hr) hK hc
theorem A5i {t : TypeId} {k : IntKind} {j : Int} {l : List UInt8} (ht : P.underlying t = some .string) (h0 : 0 ≤ j) (h1 : j < l.length) (h : K (.pv (.i .u8 (l.getD j.toNat 0).toNat)) []) :
 Tells P V ρ w (Instr.index t (.string ⟨l.toArray⟩) (.int k j)) K := by
 refine .mk ?_ h Dj;unfold Instr.index;rw [Ab Ij, Ab (Fw.run_underlying ht w)];have hlt : j.toNat < l.length := by omega
 have hlt' : j.toNat < (ByteArray.mk l.toArray).size := by rw [H9]; exact hlt
 have : (if 0 ≤ j then (ByteArray.mk l.toArray)[j.toNat]? else none) = some (l.getD j.toNat 0) := by

  rw [if_pos h0, getElem?_pos (ByteArray.mk l.toArray) j.toNat hlt'];simp only [List.getD_eq_getElem?_getD, List.getElem?_eq_getElem hlt, Option.getD_some];rfl
 simp only [this]; rfl
theorem Aez : ∀ {l : List SV} {vs : List Value} {k : Nat} {x : SV}, ConcL V ρ l vs → nth l k = some x → ∃ v, vs[k]? = some v ∧ Conc V ρ x v
 | [], _, _, _, _, h => by simp [nth] at h
 | y :: l, vs, k, x, hc, h => by
   simp only [ConcL] at hc;obtain ⟨u, us, rfl, h1, h2⟩ := hc;simp only [nth] at h;split at h
   · rename_i e; subst e; cases h; exact ⟨u, rfl, h1⟩
   · rename_i e;obtain ⟨v, g1, g2⟩ := Aez h2 h;refine ⟨v, ?_, g2⟩;obtain ⟨k, rfl⟩ : ∃ m, k = m + 1 := ⟨k - 1, by omega⟩
     simpa using g1
theorem A6c {k : Nat} {l : List SV} {v : Value} (hx : Conc V ρ (.tup l) v) (h : Afy (nth l k) K) : Tells P V ρ w (Instr.extract v k) K := by
 simp only [Conc] at hx;obtain ⟨vs, rfl, hc⟩ := hx;unfold Afy at h;split at h
 · rename_i x hn;obtain ⟨v, g1, g2⟩ := Aez hc hn;refine .mk ?_ h g2;unfold Instr.extract;simp only [show (Array.mk vs)[k]? = some v from by simpa using g1]; rfl
 · exact h.elim
theorem Ax6 {c x y : SV} {vc vx vy : Value} (hc : Conc V ρ c vc) (hx : Conc V ρ x vx) (hy : Conc V ρ y vy) (h : Ki c x y K) :
 ∃ v z, (do pure (Next.value (if ← asBool vc then vx else vy)) : Sem Next).run P w = .ok (.value v) w ∧ K z [] ∧ Conc V ρ z v := by
 unfold Ki at h;split at h
 · cases Pq hc; exact ⟨vx, _, rfl, h, hx⟩
 · cases Pq hc; exact ⟨vy, _, rfl, h, hy⟩
 · exact h.elim
theorem Ayx {x : SV} {v : Value} (hx : Conc V ρ x v) (h : An 0 s.h .nilc [x] K) : ∃ r, (execOp (fun _ => v) ⟨none, .nilCheck (.tmp 0), 0, "", #[], none⟩ : Sem Next).run P w = .ok (.value v) w ∧ r = v ∧ K x [] := by
 cases x <;> simp only [An] at h <;> (try exact h.elim) <;> simp only [Conc] at hx
 case p n o => obtain ⟨b, e, rfl⟩ := hx; exact ⟨_, rfl, rfl, h⟩
 case ps n o => obtain ⟨b, e, rfl⟩ := hx; exact ⟨_, rfl, rfl, h⟩
 case pr n z i o => obtain ⟨b, l, c, e, rfl⟩ := hx; exact ⟨_, rfl, rfl, h⟩
 case pi z es i o => obtain ⟨b, q, arr, rfl, e⟩ := hx; exact ⟨_, rfl, rfl, h⟩
 case fn f l => obtain ⟨vs, rfl, _⟩ := hx; cases f <;> exact ⟨_, rfl, rfl, h⟩
end Go.Proofs.YthiamojjhdcegaaGreat.Fw
