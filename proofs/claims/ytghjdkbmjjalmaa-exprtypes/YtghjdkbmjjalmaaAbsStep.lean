/-
  ABS, part 3: single operations in abstract states; a region in its own order.
-/
import Derived.Test.YtghjdkbmjjalmaaAbsState
namespace Go.Abs
open Go

def opd (s : St) : Operand → Option PV
  | .tmp t => match s.env t with
    | (_, .pv p) => some p
    | _ => none
  | .const v => some (.val v)
  | .func f => some (.fn f [])
  | .global _ => none

def OpdOK (g : G) (s : St) (x : Operand) (v : Value) : Prop := ∀ p, opd s x = some p → Rep g p v

/-- What an operation has come to: a value, or a call that hands back one. -/
def OpRes (P : Program) (R : Value → World → Prop) : Result Next → Prop
  | .ok (.value v) w' => R v w'
  | .ok .skip w' => R undef w'
  | .ok (.enter f args) w' => Calls P f args w' fun e w'' => ∃ v, e = .returned v ∧ R v w''
  | _ => False

/-- An operation that looks at its operands alone, and yields a value that reads as p; of what was there nothing turns. -/
def OpV (P : Program) (o : Oper) (s : St) (p : PV) : Prop :=
  ∀ w g (ρ : Operand → Value), MemOK P s.st w g → (∀ x ∈ o.op.operands, OpdOK g s x (ρ x)) →
    OpRes P (fun v w' => ∃ g', Rep g' p v ∧ MemOK P s.st w' g' ∧ Le g g' ∧ Frame (Blocks s.st g) w g w' g') ((execOp ρ o).run P w)

def flagOK (s : St) : Operand → Prop
  | .tmp t => (s.env t).1 = true
  | _ => True

def gw : Bool → Bool → Bool → Bool
  | true, x, true => x
  | true, x, false => !x
  | false, _, _ => false

/-- Is an operation wanted? -/
def wantA (l : List Oper) (o : Oper) (s : St) : Option Bool :=
  match o.guard with
  | none => some true
  | some (j, b) => match (l[j]?).bind (·.dst) with
    | none => none
    | some t => match s.env t with
      | (w, .pv (.val (.bool x))) => some (gw w x b)
      | _ => none

inductive Tr where
  | put (d : Option Nat) (w : Bool) (e : E)
  | box (d : Nat) (T : TypeId) (cs : List PV)
  | sto (t : Nat) (T : TypeId) (cs : List PV)

def Tr.app : Tr → St → St
  | .put d w e, s => s.put d w e
  | .box d T cs, s => s.var d T cs
  | .sto t T cs, s => { s with L := upd s.L t (some (T, cs)) }

def dstOK (o : Oper) (s : St) : Bool :=
  match o.dst with
  | some d => Nat.blt d s.n
  | none => true

/-- A cell, some cells, of a variable's. -/
def cellsAt (cs : List PV) (off k : Nat) : List PV := (cs.drop off).take k
def setAt : List PV → Nat → List PV → List PV
  | cs, 0, [] => cs
  | [], _, _ => []
  | _ :: cs, 0, p :: ps => p :: setAt cs 0 ps
  | c :: cs, n + 1, ps => c :: setAt cs n ps

def isAggT (P : Program) (T : TypeId) : Bool :=
  match P.underlying T with
  | some (.struct _) | some (.array _ _) => true
  | _ => false

def addrOf (P : Program) (s : St) : Op → Option (Bool × Nat × Nat)
  | .fieldAddr T (.tmp x) f => match s.env x with
    | (w, .adr t off) => match P.underlying T with
      | some (.struct fs) => match fs[f]? with
        | some fd => if P.cellsOf fd.type = 0 then none else some (w, t, off + fd.offset)
        | none => none
      | _ => none
    | _ => none
  | _ => none

/-- One operation, and how it turns the state. -/
inductive AStep (P : Program) (l : List Oper) (o : Oper) (s : St) : Tr → Prop
  | val (w : Bool) (p : PV) (hw : wantA l o s = some w) (hd : dstOK o s = true) (hf : w = true → ∀ x ∈ o.op.operands, flagOK s x) (hv : w = true → OpV P o s p) : AStep P l o s (.put o.dst w (.pv p))
  | pick (w : Bool) (t : Nat) (a b : Operand) (wt x : Bool) (p : PV) (hw : wantA l o s = some w) (hd : dstOK o s = true) (ho : o.op = .pick (.tmp t) a b) (ht : s.env t = (wt, .pv (.val (.bool x)))) (hwt : w = true → wt = true)
      (ha : w = true → x = true → flagOK s a ∧ opd s a = some p) (hb : w = true → x = false → flagOK s b ∧ opd s b = some p) : AStep P l o s (.put o.dst w (.pv p))
  | adr (w wx : Bool) (t off : Nat) (hw : wantA l o s = some w) (hd : dstOK o s = true) (ho : addrOf P s o.op = some (wx, t, off)) (hf : w = true → wx = true) : AStep P l o s (.put o.dst w (.adr t off))
  | adrI (w wx : Bool) (t off : Nat) (T : TypeId) (x : Nat) (y : Operand) (k : IntKind) (i : Int) (n e sz j : Nat) (hw : wantA l o s = some w) (hd : dstOK o s = true) (ho : o.op = .indexAddr T (.tmp x) y) (hx : s.env x = (wx, .adr t off)) (hy : opd s y = some (.val (.int k i)))
      (hf : w = true → wx = true ∧ flagOK s y) (hu : P.underlying T = some (.array n e)) (hs : (P.info? e).map (·.size) = some sz) (hj : w = true → i = (j : Int) ∧ j < n) : AStep P l o s (.put o.dst w (.adr t (off + j * sz)))
  | load1 (w wx : Bool) (T : TypeId) (x t off : Nat) (T' : TypeId) (cs : List PV) (p : PV) (hw : wantA l o s = some w) (hd : dstOK o s = true) (ho : o.op = .load T (.tmp x)) (hx : s.env x = (wx, .adr t off)) (hf : w = true → wx = true)
      (hL : s.L t = some (T', cs)) (hT : isAggT P T = false) (hu : (P.underlying T).isSome = true) (hc : cs[off]? = some p) : AStep P l o s (.put o.dst w (.pv p))
  | loadA (w wx : Bool) (T : TypeId) (x t off : Nat) (T' : TypeId) (cs : List PV) (k : Nat) (hw : wantA l o s = some w) (hd : dstOK o s = true) (ho : o.op = .load T (.tmp x)) (hx : s.env x = (wx, .adr t off)) (hf : w = true → wx = true)
      (hL : s.L t = some (T', cs)) (hT : isAggT P T = true) (hk : (P.info? T).map (·.size) = some k) (hc : off + k ≤ cs.length) : AStep P l o s (.put o.dst w (.pv (.agg (cellsAt cs off k))))
  | alloc (d : Nat) (T : TypeId) (z : Value) (hg : o.guard = none) (hd : o.dst = some d) (hn : Nat.blt d s.n = true) (had : s.ad d = false) (ho : o.op = .alloc T) (hz : (P.info? T).bind (·.zero) = some z) :
      AStep P l o s (.box d T (z.cells.toList.map .val))
  | box (d : Nat) (T : TypeId) (x : Operand) (p : PV) (hg : o.guard = none) (hd : o.dst = some d) (hn : Nat.blt d s.n = true) (had : s.ad d = false) (ho : o.op = .box T x) (hf : flagOK s x) (hx : opd s x = some p) (hp : p.flat = true) :
      AStep P l o s (.box d T p.cells)
  | store (T : TypeId) (x : Nat) (y : Operand) (t off : Nat) (T' : TypeId) (cs : List PV) (p : PV) (hg : o.guard = none) (hd : o.dst = none) (ho : o.op = .store T (.tmp x) y) (hx : s.env x = (true, .adr t off)) (hL : s.L t = some (T', cs))
      (hf : flagOK s y) (hy : opd s y = some p) (hp : p.flat = true) (hk : (P.info? T).map (·.size) = some p.cells.length) (hc : off + p.cells.length ≤ cs.length) : AStep P l o s (.sto t T' (setAt cs off p.cells))
