/-
  The evaluator of closed calls, part 2: its definitions: single operations ('evP': those that ask nothing of memory, 'evM': the others), regions, code, calls. What they are worth is shown in the next parts.
-/
import Derived.Test.YtncoklpecffokaaGreatDoorEa
namespace Go.Proofs.YtncoklpecffokaaGreatDoor.Cc
open Go Go.RowKit

/-- What is known of a type. -/
structure TyI where
  und : TypeDesc
  size : Nat
  bytes : Nat
  agg : Bool
  zero : V

abbrev TI := TypeId → Option TyI

abbrev Lk := Nat → Option V
def Lk.put (e : Lk) (d : Option Tmp) (x : V) : Lk := fun t => match d with | some d => cond (Nat.beq t d) (some x) (e t) | none => e t
def Lk.only (l : List Nat) (e : Lk) : Lk := fun t => cond (l.contains t) (e t) none

/-! ### constants, operands -/
def const1 : Value → Option V
  | .bool b => some (.bool b)
  | .int k n => some (.int k n)
  | .string s => cond (Nat.ble s.data.toList.length maxLen) (some (.str s.data.toList)) none
  | .pointer none => some .nilp
  | .slice none 0 0 => some .nilS
  | .map none => some .nilM
  | .nilFunc => some .nilF
  | .nilIface => some .nilI
  | _ => none
def constL : List Value → Option (List V)
  | [] => some []
  | v :: vs => match const1 v with
    | some x => (match constL vs with | some xs => some (x :: xs) | none => none)
    | none => none
def constV : Value → Option V
  | .agg vs => (match constL vs.toList with | some xs => some (.agg xs) | none => none)
  | .iface t v => (match const1 v with | some x => some (.iface t x) | none => none)
  | v => const1 v
def evO (ng : Con) (e : Lk) : Operand → Option V
  | .tmp t => e t
  | .const v => constV v
  | .func f => some (.func f [])
  | .global b => cond (Nat.blt b ng.n) (some (.ptr b 0)) none
def evL (ng : Con) (e : Lk) : List Operand → Option (List V)
  | [] => some []
  | o :: os => match evO ng e o with
    | some x => (match evL ng e os with | some xs => some (x :: xs) | none => none)
    | none => none

/-- The types' table, off the program. -/
def aggDesc : TypeDesc → Bool
  | .struct _ => true
  | .array _ _ => true
  | _ => false
def mkTy (P : Program) (T : TypeId) : Option TyI := match P.underlying T, P.info? T with
  | some u, some f => (match f.zero with
    | some z => (match constV z with | some x => some ⟨u, f.size, f.bytes, aggDesc u, x⟩ | none => none)
    | none => none)
  | _, _ => none

/-- A datum that names no block, as a value. -/
def V.val1 : V → Option Value
  | .bool b => some (.bool b)
  | .int k n => some (.int k n)
  | .str s => some (.string ⟨s.toArray⟩)
  | .nilp => some (.pointer none)
  | .nilS => some (.slice none 0 0)
  | .nilM => some (.map none)
  | .nilF => some .nilFunc
  | .nilI => some .nilIface
  | _ => none
def V.valL : List V → Option (List Value)
  | [] => some []
  | x :: xs => match V.val1 x with
    | some v => (match V.valL xs with | some vs => some (v :: vs) | none => none)
    | none => none
def V.val : V → Option Value
  | .agg cs => (match V.valL cs with | some vs => some (.agg vs.toArray) | none => none)
  | .iface t x => (match V.val1 x with | some v => some (.iface t v) | none => none)
  | x => V.val1 x

/-- The run of what asks nothing of the world. -/
def pureRun (P : Program) {α : Type} : Sem α → Option α
  | .pure a => some a
  | .program k => pureRun P (k P)
  | .mark _ k => pureRun P k
  | _ => none
def ρE (ng : Con) (e : Lk) (o : Operand) : Value := match evO ng e o with
  | some x => (match x.val with | some v => v | none => Go.undef)
  | none => Go.undef
def plainO (ng : Con) (e : Lk) (o : Operand) : Bool := match evO ng e o with
  | some x => (match x.val with | some _ => true | none => false)
  | none => false
/-- An operation on plain data: as the model itself runs it. -/
def evS (P : Program) (ng : Con) (e : Lk) (o : Oper) : Option V :=
  cond (o.op.operands.toList.all (plainO ng e)) (match pureRun P (execOp (ρE ng e) o) with
    | some (.value v) => constV v
    | _ => none) none

/-- Whole numbers. -/
def evI (op : BinOp) (k : IntKind) (m q : Int) : Option V :=
  match op with
  | .add => some (.int k (k.wrap (m + q)))
  | .sub => some (.int k (k.wrap (m - q)))
  | .mul => some (.int k (k.wrap (m * q)))
  | .lss => some (.bool (decide (m < q)))
  | .leq => some (.bool (decide (m ≤ q)))
  | .gtr => some (.bool (decide (q < m)))
  | .geq => some (.bool (decide (q ≤ m)))
  | .eql => some (.bool (decide (m = q)))
  | .neq => some (.bool (decide (m ≠ q)))
  | _ => none
def isC : Operand → Bool
  | .const _ => true
  | _ => false
/-- Something held against nil: are they the same? -/
def nilCmp (d : TypeDesc) (x y : Operand) (vx vy : V) : Option Bool :=
  match d, vx, vy with
  | .pointer _, .nilp, .nilp => some true
  | .pointer _, .ptr _ _, .nilp => some false
  | .pointer _, .nilp, .ptr _ _ => some false
  | .slice _, .nilS, .nilS => some true
  | .slice _, .sl _ _ _ _, .nilS => some false
  | .slice _, .voidS, .nilS => some false
  | .slice _, .nilS, .sl _ _ _ _ => some false
  | .map _ _, .nilM, .nilM => some true
  | .map _ _, .map _, .nilM => some false
  | .func _ _ _, .nilF, .nilF => some true
  | .func _ _ _, .func _ _, .nilF => some false
  | .interface _, .nilI, .nilI => cond (isC x || isC y) (some true) none
  | .interface _, .iface _ _, .nilI => some false
  | .interface _, .nilI, .iface _ _ => some false
  | _, _, _ => none
def putRow (cs : List V) (o : Nat) (ds : List V) : List V := cs.take o ++ ds ++ cs.drop (o + ds.length)
/-- Parts laid into a row of cells. -/
def fillV (place : Nat → Option (Nat × Nat)) : List V → List (Nat × V) → Option (List V)
  | cs, [] => some cs
  | cs, (i, x) :: rest => match place i with
    | none => none
    | some (off, size) => cond (x.lays && (Nat.beq x.cells.length size && Nat.ble (off + size) cs.length)) (fillV place (putRow cs off x.cells) rest) none
def evParts (ng : Con) (e : Lk) : List (Nat × Operand) → Option (List (Nat × V))
  | [] => some []
  | (i, o) :: ps => match evO ng e o with
    | some x => (match evParts ng e ps with | some xs => some ((i, x) :: xs) | none => none)
    | none => none
/-- n times a row. -/
def rep (zs : List V) : Nat → List V
  | 0 => []
  | n + 1 => zs ++ rep zs n
def placesOf (ti : TI) : List Field → Option (List (Nat × Nat))
  | [] => some []
  | f :: fs => match ti f.type with
    | some i => (match placesOf ti fs with | some ps => some ((f.offset, i.size) :: ps) | none => none)
    | none => none
def partV (i : TyI) (cs : List V) (off : Nat) : Option V :=
  cond i.agg (cond (Nat.ble (off + i.size) cs.length) (some (.agg ((cs.drop off).take i.size))) none) (cs[off]?)
/-- A bound of a slice expression. -/
def boundV (ng : Con) (e : Lk) (d : Nat) : Option Operand → Option Nat
  | none => some d
  | some o => match evO ng e o with
    | some (.int _ (.ofNat n)) => some n
    | _ => none

/-! ### operations that ask nothing of memory -/
def evP_pick (P : Program) (ti : TI) (ng : Con) (e : Lk) (o : Oper) (c x y : Operand) : Option V :=
  (match evO ng e c with
    | some (.bool true) => evO ng e x
    | some (.bool false) => evO ng e y
    | _ => none)
def evP_nilCheck (P : Program) (ti : TI) (ng : Con) (e : Lk) (o : Oper) (x : Operand) : Option V :=
  (match evO ng e x with
    | some (.ptr n o) => some (.ptr n o)
    | some (.func f cs) => some (.func f cs)
    | some (.iface t v) => some (.iface t v)
    | _ => none)
def evP_binOp (P : Program) (ti : TI) (ng : Con) (e : Lk) (o : Oper) (op : BinOp) (T : TypeId) (x y : Operand) : Option V :=
  (match evO ng e x, evO ng e y with
    | some (.int k m), some (.int k' q) => cond (decide (k = k')) (match evI op k m q with
        | some r => some r
        | none => (match pureRun P (binOp op T (.int k m) (.int k' q)) with | some v => const1 v | none => none))
        (match pureRun P (binOp op T (.int k m) (.int k' q)) with | some v => const1 v | none => none)
    | some vx, some vy => (match evS P ng e o with
      | some r => some r
      | none => (match ti T with
        | some i => (match op, nilCmp i.und x y vx vy with
          | .eql, some b => some (.bool b)
          | .neq, some b => some (.bool !b)
          | _, _ => none)
        | none => none))
    | _, _ => none)
def evP_makeInterface (P : Program) (ti : TI) (ng : Con) (e : Lk) (o : Oper) (T : TypeId) (x : Operand) : Option V :=
  (match ti T with
    | some i => (match i.und with
      | .interface _ => none
      | _ => (match evO ng e x with | some v => some (.iface T v) | none => none))
    | none => none)
def evP_makeFunc (P : Program) (ti : TI) (ng : Con) (e : Lk) (o : Oper) (fn : Fn) (first cap : Array Operand) : Option V :=
  match fn with
  | .func f => cond (first.toList.isEmpty) (match evL ng e cap.toList with | some xs => some (.func f xs) | none => none) none
  | _ => none
def evP_fieldAddr (P : Program) (ti : TI) (ng : Con) (e : Lk) (o : Oper) (S : TypeId) (x : Operand) (f : Nat) : Option V :=
  (match ti S with
    | some i => (match i.und with
      | .struct fs => (match fs.toList[f]?, evO ng e x with
        | some fd, some (.ptr n o) => (match ti fd.type with
          | some j => cond (Nat.beq j.size 0) none (some (.ptr n (o + fd.offset)))
          | none => none)
        | _, _ => none)
      | _ => none)
    | none => none)
def evP_field (P : Program) (ti : TI) (ng : Con) (e : Lk) (o : Oper) (S : TypeId) (x : Operand) (f : Nat) : Option V :=
  (match ti S with
    | some i => (match i.und with
      | .struct fs => (match fs.toList[f]?, evO ng e x with
        | some fd, some (.agg cs) => (match ti fd.type with
          | some j => partV j cs fd.offset
          | none => none)
        | _, _ => none)
      | _ => none)
    | none => none)
def evP_indexAddr (P : Program) (ti : TI) (ng : Con) (e : Lk) (o : Oper) (T : TypeId) (x ix : Operand) : Option V :=
  (match ti T with
    | some i => (match i.und, evO ng e x, evO ng e ix with
      | .slice E, some (.sl _ n o len), some (.int _ (.ofNat m)) => cond (Nat.blt m len) (match ti E with | some j => some (.ptr n (o + m * j.size)) | none => none) none
      | .array N E, some (.ptr n o), some (.int _ (.ofNat m)) => cond (Nat.blt m N) (match ti E with | some j => some (.ptr n (o + m * j.size)) | none => none) none
      | _, _, _ => none)
    | none => none)
def evP_index (P : Program) (ti : TI) (ng : Con) (e : Lk) (o : Oper) (T : TypeId) (x ix : Operand) : Option V :=
  (match ti T with
    | some i => (match i.und, evO ng e x, evO ng e ix with
      | .array N E, some (.agg cs), some (.int _ (.ofNat m)) => cond (Nat.blt m N) (match ti E with | some j => partV j cs (m * j.size) | none => none) none
      | .string, _, _ => evS P ng e o
      | _, _, _ => none)
    | none => none)
def evP_slice (P : Program) (ti : TI) (ng : Con) (e : Lk) (o : Oper) (T : TypeId) (x : Operand) (lo hi mx : Option Operand) : Option V :=
  match mx with
  | none => (match ti T with
    | some i => (match i.und, evO ng e x with
      | .string, _ => evS P ng e o
      | .slice E, some (.sl sz n o len) => (match boundV ng e 0 lo, boundV ng e len hi, ti E with
        | some l, some h, some j => cond (Nat.beq j.size sz && (Nat.ble l h && Nat.ble h len)) (cond (Nat.beq l 0 || Nat.blt l len) (some (.sl sz n (o + l * sz) (h - l))) (some .viewS)) none
        | _, _, _ => none)
      | .slice E, some x => (match x, boundV ng e 0 lo, boundV ng e 0 hi, ti E with
        | .nilS, some 0, some 0, some _ => some .nilS
        | .voidS, some 0, some 0, some _ => some .voidS
        | .viewS, some 0, some 0, some _ => some .viewS
        | _, _, _, _ => none)
      | _, _ => none)
    | none => none)
  | some _ => none
def evP_build (P : Program) (ti : TI) (ng : Con) (e : Lk) (o : Oper) (T : TypeId) (parts : Array (Nat × Operand)) : Option V :=
  (match ti T with
    | some i => cond i.zero.lays (match i.und with
      | .struct fs => (match placesOf ti fs.toList, evParts ng e parts.toList with
        | some ps, some qs => (match fillV (fun k => ps[k]?) i.zero.cells qs with | some cs => some (.agg cs) | none => none)
        | _, _ => none)
      | .array _ E => (match ti E, evParts ng e parts.toList with
        | some j, some qs => (match fillV (fun k => some (k * j.size, j.size)) i.zero.cells qs with | some cs => some (.agg cs) | none => none)
        | _, _ => none)
      | _ => none) none
    | none => none)
def evP_extract (P : Program) (ti : TI) (ng : Con) (e : Lk) (o : Oper) (x : Operand) (i : Nat) : Option V :=
  (match evO ng e x with
    | some (.tuple cs) => cs[i]?
    | _ => none)
def evP_typeAssert (P : Program) (ti : TI) (ng : Con) (e : Lk) (o : Oper) (x : Operand) (A : TypeId) (ok : Bool) : Option V :=
  (match ti A, evO ng e x with
    | some i, some (.iface t v) => (match i.und with
      | .interface _ => none
      | _ => cond (Nat.beq t A) (some (cond ok (.tuple [v, .bool true]) v)) (cond ok (some (.tuple [i.zero, .bool false])) none))
    | some i, some .nilI => (match i.und with
      | .interface _ => none
      | _ => cond ok (some (.tuple [i.zero, .bool false])) none)
    | _, _ => none)
def evP_call (P : Program) (ti : TI) (ng : Con) (e : Lk) (o : Oper) (c : Call) : Option V :=
  match c with
  | { callee := .builtin b, args := as, argTypes := ts } => (match b, as.toList, ts.toList with
    | .len, [x], T :: _ => (match ti T, evO ng e x with
      | some i, some (.sl _ _ _ len) => (match i.und with | .slice _ => some (.int .i64 len) | _ => none)
      | some i, some .nilS => (match i.und with | .slice _ => some (.int .i64 0) | _ => none)
      | some i, some .voidS => (match i.und with | .slice _ => some (.int .i64 0) | _ => none)
      | some i, some .viewS => (match i.und with | .slice _ => some (.int .i64 0) | _ => none)
      | some i, some (.str s) => (match i.und with | .string => some (.int .i64 s.length) | _ => none)
      | some i, some _ => (match i.und with
        | .array N _ => some (.int .i64 N)
        | .pointer A => (match ti A with | some j => (match j.und with | .array N _ => some (.int .i64 N) | _ => none) | none => none)
        | _ => none)
      | _, _ => none)
    | .min, _, _ => evS P ng e o
    | .max, _, _ => evS P ng e o
    | _, _, _ => none)
  | _ => none
def evP (P : Program) (ti : TI) (ng : Con) (e : Lk) (o : Oper) : Option V :=
  match o.op with
  | .move x => evO ng e x
  | .assign x => evO ng e x
  | .pick c x y => evP_pick P ti ng e o c x y
  | .nilCheck x => evP_nilCheck P ti ng e o x
  | .binOp op T x y _ => evP_binOp P ti ng e o op T x y
  | .unOp _ _ _ => evS P ng e o
  | .convert _ _ _ => evS P ng e o
  | .makeInterface T x => evP_makeInterface P ti ng e o T x
  | .makeFunc fn first cap => evP_makeFunc P ti ng e o fn first cap
  | .fieldAddr S x f => evP_fieldAddr P ti ng e o S x f
  | .field S x f => evP_field P ti ng e o S x f
  | .indexAddr T x ix => evP_indexAddr P ti ng e o T x ix
  | .index T x ix => evP_index P ti ng e o T x ix
  | .slice T x lo hi mx => evP_slice P ti ng e o T x lo hi mx
  | .build T parts => evP_build P ti ng e o T parts
  | .extract x i => evP_extract P ti ng e o x i
  | .typeAssert x _ A ok => evP_typeAssert P ti ng e o x A ok
  | .call c => evP_call P ti ng e o c
  | _ => none

/-! ### operations that ask of memory -/
noncomputable def objCells (H : Heap) (n : Nat) : Option (List V) := match H.get n with | some (.cells _ cs _ _) => some cs | _ => none
/-- The cells that a slice or a string appends. -/
noncomputable def srcCells (H : Heap) (sz : Nat) : V → Option (List V)
  | .nilS => some []
  | .voidS => some []
  | .viewS => some []
  | .str s => cond (Nat.beq sz 1) (some (s.map fun b => .int .u8 b.toNat)) none
  | .sl sz' m o k => cond (Nat.beq sz' sz) (match objCells H m with
    | some cs => cond (Nat.ble (o + k * sz) cs.length) (some ((cs.drop o).take (k * sz))) none
    | none => none) none
  | _ => none
def roomy : Nat := 140737488355328
noncomputable def evAppend (H : Heap) (E : TypeId) (j : TyI) (x : V) (ys : List V) : Option (V × Heap) :=
  match ys with
  | [] => cond (Nat.blt 0 j.size) (match x with
    | .nilS => some (x, H)
    | .voidS => some (x, H)
    | .sl _ _ _ _ => some (x, H)
    | _ => none) none
  | _ => cond (Nat.blt 0 j.size && (Nat.blt 0 j.bytes && (Nat.beq (Nat.mod ys.length j.size) 0 && ys.all V.one))) (match x with
    | .nilS => cond (Nat.ble (Nat.div ys.length j.size * j.bytes) roomy) (some (.sl j.size H.nn 0 (Nat.div ys.length j.size), H.new (.cells E ys false false))) none
    | .voidS => cond (Nat.ble (Nat.div ys.length j.size * j.bytes) roomy) (some (.sl j.size H.nn 0 (Nat.div ys.length j.size), H.new (.cells E ys false false))) none
    | .sl sz n o len => cond (Nat.beq sz j.size && Nat.ble ((len + Nat.div ys.length sz) * j.bytes) roomy) (match H.get n with
      | some (.cells T cs ex ro) =>
        cond (Nat.ble (o + len * sz + ys.length) cs.length) (cond ro none (some (.sl sz n o (len + Nat.div ys.length sz), H.set n (.cells T (putRow cs (o + len * sz) ys) ex ro))))
          (cond ex (cond (Nat.ble (o + len * sz) cs.length) (some (.sl sz H.nn 0 (len + Nat.div ys.length sz), H.new (.cells E ((cs.drop o).take (len * sz) ++ ys) false false))) none)
            (cond (Nat.beq o 0 && (Nat.beq (len * sz) cs.length && (!ro && Nat.beq T E))) (some (.sl sz H.nn 0 (len + Nat.div ys.length sz), H.move n (.cells T (cs ++ ys) false false))) none))
      | _ => none) none
    | _ => none) none

/-- Bytes. -/
def bytesV : List V → Option (List UInt8)
  | [] => some []
  | .int .u8 (.ofNat n) :: cs => (match bytesV cs with | some s => some (UInt8.ofNat n :: s) | none => none)
  | _ => none

/-- What a map holds under a key (of numbers or of texts). -/
def V.key : V → V → Option Bool
  | .int k m, .int k' q => cond (decide (k = k')) (some (decide (m = q))) none
  | .str s, .str t => some (decide (s = t))
  | _, _ => none
def entGet (k : V) : List (V × V) → Option (Option V)
  | [] => some none
  | (c, x) :: es => match V.key k c with
    | some true => some (some x)
    | some false => entGet k es
    | none => none
def entSet (k x : V) : List (V × V) → Option (List (V × V))
  | [] => some [(k, x)]
  | (c, y) :: es => match V.key k c with
    | some true => some ((k, x) :: es)
    | some false => (match entSet k x es with | some r => some ((c, y) :: r) | none => none)
    | none => none

abbrev CallF := FuncId → List V → Heap → Option (V × Heap)

/-- Does an operation make a block, and nothing else? -/
def isA : Op → Bool
  | .alloc _ | .box _ _ | .buildSlice _ _ _ | .makeSlice _ _ _ => true
  | _ => false
/-- What such an operation makes, if the block is named n. -/
def evA (ti : TI) (ng : Con) (e : Lk) (o : Oper) (n : Nat) : Option (V × O) :=
  match o.op with
  | .alloc T => (match ti T with
    | some i => cond i.zero.lays (some (.ptr n 0, .cells T i.zero.cells true false)) none
    | none => none)
  | .box T x => (match evO ng e x with
    | some v => cond v.lays (some (.ptr n 0, .cells T v.cells true false)) none
    | none => none)
  | .buildSlice T len parts => (match ti T with
    | some i => (match i.und with
      | .slice E => (match ti E, evParts ng e parts.toList with
        | some j, some qs => cond (Nat.ble len 16777216 && (Nat.ble (len * j.size) 16777216 && (j.zero.lays && Nat.beq j.zero.cells.length j.size))) (match fillV (fun k => some (k * j.size, j.size)) (rep j.zero.cells len) qs with
          | some cs => some (.sl j.size n 0 len, .cells E cs true false)
          | none => none) none
        | _, _ => none)
      | _ => none)
    | none => none)
  | .makeSlice T l c => (match ti T with
    | some i => (match i.und, evO ng e l, evO ng e c with
      | .slice E, some (.int _ (.ofNat m)), some (.int _ (.ofNat q)) => (match ti E with
        | some j => cond (Nat.ble m q && (Nat.ble q 1000000 && (Nat.ble j.bytes 1000000 && (j.zero.lays && Nat.beq j.zero.cells.length j.size)))) (some (.sl j.size n 0 m, .cells E (rep j.zero.cells q) true false)) none
        | none => none)
      | _, _, _ => none)
    | none => none)
  | _ => none

/-- A slice or a text. -/
def listy : TypeDesc → Bool
  | .slice _ => true
  | .string => true
  | _ => false
noncomputable def evM_load (ti : TI) (ng : Con) (e : Lk) (H : Heap) (T : TypeId) (x : Operand) : Option (V × Heap) :=
  (match evO ng e x, ti T with
    | some (.ptr n o), some i => (match objCells H n with
      | some cs => (match partV i cs o with | some v => some (v, H) | none => none)
      | none => none)
    | _, _ => none)
noncomputable def evM_store (ti : TI) (ng : Con) (e : Lk) (H : Heap) (T : TypeId) (p x : Operand) : Option (V × Heap) :=
  (match evO ng e p, evO ng e x, ti T with
    | some (.ptr n o), some v, some i => (match H.get n with
      | some (.cells S cs ex false) => cond (v.lays && (Nat.beq v.cells.length i.size && Nat.ble (o + i.size) cs.length)) (some (.undef, H.set n (.cells S (putRow cs o v.cells) ex false))) none
      | _ => none)
    | _, _, _ => none)
noncomputable def evM_slice (ti : TI) (ng : Con) (e : Lk) (H : Heap) (T : TypeId) (x : Operand) (lo hi mx : Option Operand) : Option (V × Heap) :=
  match mx with
  | none => (match ti T with
    | some i => (match i.und, evO ng e x with
      | .array N E, some (.ptr n o) => (match boundV ng e 0 lo, boundV ng e N hi, ti E, H.get n with
        | some l, some h, some j, some (.cells _ cs true _) => cond (Nat.beq (o + N * j.size) cs.length && (Nat.ble l h && (Nat.ble h N && (Nat.blt l N && Nat.ble N maxLen)))) (some (.sl j.size n (o + l * j.size) (h - l), H)) none
        | _, _, _, _ => none)
      | _, _ => none)
    | none => none)
  | some _ => none
noncomputable def evM_convert (ti : TI) (ng : Con) (e : Lk) (H : Heap) (S D : TypeId) (x : Operand) : Option (V × Heap) :=
  (match ti S, ti D, evO ng e x with
    | some i, some i', some (.sl sz n o len) => (match i.und, i'.und with
      | .slice E, .string => (match ti E, objCells H n with
        | some j, some cs => (match j.und with
          | .int .u8 => cond (Nat.beq sz 1 && Nat.ble (o + len) cs.length) (match bytesV ((cs.drop o).take len) with | some s => some (.str s, H) | none => none) none
          | _ => none)
        | _, _ => none)
      | _, _ => none)
    | _, _, _ => none)
def isSl : Option V → Bool
  | some (.sl _ _ _ _) => true
  | _ => false
/-- A text as bytes; a pointer as one without a type; no bytes as a text. -/
noncomputable def evM_conv2 (ti : TI) (ng : Con) (e : Lk) (H : Heap) (S D : TypeId) (x : Operand) : Option (V × Heap) :=
  (match ti S, ti D with
    | some i, some i' => (match i.und, i'.und, evO ng e x with
      | .string, .slice E, some (.str s) => (match ti E with
        | some j => (match j.und with
          | .int .u8 => cond (Nat.ble s.length 16777216) (some (.sl 1 H.nn 0 s.length, H.new (.cells E (s.map fun b => .int .u8 b.toNat) false false))) none
          | _ => none)
        | none => none)
      | .pointer t, .unsafePointer, some (.ptr n o) => (match ti t, objCells H n with
        | some k, some cs => cond (Nat.blt 0 k.size && Nat.blt o cs.length) (some (.ptr n o, H)) none
        | _, _ => none)
      | .slice E, .string, some .voidS => (match ti E with
        | some j => (match j.und with | .int .u8 => some (.str [], H) | _ => none)
        | none => none)
      | .slice E, .string, some .nilS => (match ti E with
        | some j => (match j.und with | .int .u8 => some (.str [], H) | _ => none)
        | none => none)
      | _, _, _ => none)
    | _, _ => none)
noncomputable def evM_range (ti : TI) (ng : Con) (e : Lk) (H : Heap) (T : TypeId) (x : Operand) : Option (V × Heap) :=
  (match ti T, evO ng e x with
    | some i, some (.str s) => (match i.und with | .string => some (.ptr H.nn 0, H.new (.iter s 0)) | _ => none)
    | _, _ => none)
noncomputable def evM_next (ti : TI) (ng : Con) (e : Lk) (H : Heap) (x : Operand) (b : Bool) : Option (V × Heap) :=
  match b with
  | true => (match evO ng e x with
    | some (.ptr n 0) => (match H.get n with
      | some (.iter s pos) => cond (Nat.blt pos s.length)
        (some (.tuple [.bool true, .int .i64 pos, .int .i32 (Utf8.decode ⟨s.toArray⟩ pos).1], H.set n (.iter s (pos + (Utf8.decode ⟨s.toArray⟩ pos).2))))
        (some (.tuple [.bool false], H))
      | _ => none)
    | _ => none)
  | false => none
noncomputable def evM_builtin (ti : TI) (ng : Con) (e : Lk) (H : Heap) (b : Builtin) (as : Array Operand) (ts : Array TypeId) : Option (V × Heap) :=
  (match b, as.toList, ts.toList with
    | .append, [x, y], [T, T'] => (match ti T, ti T', evO ng e x, evO ng e y with
      | some i, some i', some vx, some vy => (match i.und with
        | .slice E => cond (listy i'.und) (match ti E with
            | some j => (match srcCells H j.size vy with
              | some ys => cond (j.zero.lays && Nat.beq j.zero.cells.length j.size) (evAppend H E j vx ys) none
              | none => none)
            | none => none) none
        | _ => none)
      | _, _, _, _ => none)
    | .copy, [x, y], T :: _ => (match ti T, evO ng e x, evO ng e y with
      | some i, some (.sl sz n o len), some vy => (match i.und with
        | .slice E => (match ti E, srcCells H sz vy, H.get n with
          | some j, some ys, some (.cells S cs ex false) => cond (Nat.blt 0 sz && (Nat.beq j.size sz && (Nat.beq (Nat.mod ys.length sz) 0 && (Nat.ble (o + len * sz) cs.length && ys.all V.one))))
            (some (.int .i64 (Nat.min (Nat.div ys.length sz) len), H.set n (.cells S (putRow cs o (ys.take (Nat.min (Nat.div ys.length sz) len * sz))) ex false))) none
          | _, _, _ => none)
        | _ => none)
      | _, _, _ => none)
    | _, _, _ => none)
noncomputable def evM_value (ng : Con) (call : CallF) (e : Lk) (H : Heap) (f : Operand) (as : Array Operand) : Option (V × Heap) :=
  (match evO ng e f, evL ng e as.toList with
    | some (.func g cap), some xs => call g (xs ++ cap) H
    | _, _ => none)
noncomputable def evM_call (ti : TI) (ng : Con) (call : CallF) (e : Lk) (H : Heap) (c : Call) : Option (V × Heap) :=
  match c with
  | { callee := .builtin b, args := as, argTypes := ts } => evM_builtin ti ng e H b as ts
  | { callee := .value f, args := as, argTypes := _ } => evM_value ng call e H f as
  | _ => none
noncomputable def evM (ti : TI) (ng : Con) (call : CallF) (e : Lk) (H : Heap) (o : Oper) : Option (V × Heap) :=
  match o.op with
  | .load T x => evM_load ti ng e H T x
  | .store T p x => evM_store ti ng e H T p x
  | .slice T x lo hi mx => evM_slice ti ng e H T x lo hi mx
  | .convert S D x => cond (isSl (evO ng e x)) (evM_convert ti ng e H S D x) (evM_conv2 ti ng e H S D x)
  | .range T x => evM_range ti ng e H T x
  | .next x b => evM_next ti ng e H x b
  | .call c => evM_call ti ng call e H c
  | _ => none
/-- One operation. -/
noncomputable def evStep (P : Program) (ti : TI) (ng : Con) (call : CallF) (e : Lk) (H : Heap) (o : Oper) : Option (V × Heap) :=
  match evP P ti ng e o with
  | some x => some (x, H)
  | none => cond (isA o.op) (match evA ti ng e o H.nn with | some (x, b) => some (x, H.new b) | none => none) (evM ti ng call e H o)

/-! ### regions -/
/-- Is an operation wanted? -/
def wantedV (ops : List Oper) (e : Lk) (o : Oper) : Option Bool :=
  match o.guard with
  | none => some true
  | some (j, want) => (match ops[j]? with
    | some p => (match p.dst with
      | some d => (match e d with
        | some (.bool b) => some (b == want)
        | some .undef => some false
        | _ => none)
      | none => none)
    | none => none)
noncomputable def putT (e : Tr V) (n : Nat) (d : Option Tmp) (x : V) : Option (Tr V) := match d with
  | some d => cond (Nat.blt d n) (some (e.set d x)) none
  | none => some e
/-- A call that is put off: whom, with what. -/
abbrev DV := FuncId × List V
def evDef (ng : Con) (e : Lk) (o : Oper) : Option DV := match o.op with
  | .defer { callee := .value f, args := as, argTypes := _ } => (match evO ng e f, evL ng e as.toList with
    | some (.func g cap), some xs => some (g, xs ++ cap)
    | _, _ => none)
  | _ => none
noncomputable def evOps (P : Program) (ti : TI) (ng : Con) (n : Nat) (call : CallF) (ops : List Oper) : List Oper → List DV → Tr V → Heap → Option (List DV × Tr V × Heap)
  | [], D, e, H => some (D, e, H)
  | o :: l, D, e, H => match wantedV ops e.get o with
    | some true => (match evStep P ti ng call e.get H o with
      | some (x, H') => (match putT e n o.dst x with | some e' => evOps P ti ng n call ops l D e' H' | none => none)
      | none => (match evDef ng e.get o with
        | some d => (match putT e n o.dst .undef with | some e' => evOps P ti ng n call ops l (d :: D) e' H | none => none)
        | none => none))
    | some false => (match putT e n o.dst .undef with | some e' => evOps P ti ng n call ops l D e' H | none => none)
    | none => none

/-! A region that draws its order: a plan. 'free i D': operation i may be taken at once, whatever comes up beside it (D: those that wait for it); 'late j A': all that may come up beside j (A) are such as make a block and nothing else. -/
inductive PS where
  | free (i : Nat) (D : List Nat)
  | late (j : Nat) (A : List Nat)
/-- The order that an edge asks for. -/
def waits (o : Oper) (i : Nat) (D : List Nat) : Bool := o.after.toList.any fun e => Region.binds .any e && (Nat.beq e.on i || D.contains e.on)
def afterD (i : Nat) : List Oper → Nat → List Nat → List Nat
  | [], _, D => D
  | o :: os, j, D => afterD i os (j + 1) (cond (waits o i D) (j :: D) D)
def freeB (ops : Array Oper) (listed : Array Bool) (i : Nat) (D : List Nat) : Bool :=
  match ops[i]? with
  | none => false
  | some oi => D.all (fun j => !(listed.getD j true) && (match ops[j]? with | some oj => waits oj i D | none => false)) &&
    (List.range ops.size).all fun j => j == i || listed.getD j true || D.contains j || (match ops[j]? with | some oj => oi.apart ops oj | none => true)
/-- May it be taken at once? (By its form.) -/
def easy : Op → Bool
  | .move _ | .assign _ | .pick _ _ _ | .nilCheck _ | .binOp _ _ _ _ _ | .unOp _ _ _ | .convert _ _ _ | .makeInterface _ _ | .makeFunc _ _ _ | .fieldAddr _ _ _ | .field _ _ _ | .indexAddr _ _ _
  | .index _ _ _ | .slice _ _ _ _ _ | .build _ _ | .extract _ _ | .typeAssert _ _ _ _ | .load _ _ => true
  | .call { callee := .builtin .len, .. } | .call { callee := .builtin .min, .. } | .call { callee := .builtin .max, .. } => true
  | _ => false
def findFree (ops : Array Oper) (listed : Array Bool) : List Nat → Option PS
  | [] => none
  | i :: r => cond (match ops[i]? with | some o => easy o.op && freeB ops listed i (afterD i ops.toList 0 []) | none => false) (some (.free i (afterD i ops.toList 0 []))) (findFree ops listed r)
def setAll (listed : Array Bool) : List Nat → Array Bool
  | [] => listed
  | i :: r => setAll (listed.setIfInBounds i true) r
def opIsA (ops : Array Oper) (i : Nat) : Bool := match ops[i]? with | some o => isA o.op | none => false
def lateB (ops : Array Oper) (listed : Array Bool) (j : Nat) (A : List Nat) : Bool :=
  (Region.ready .any ops listed).contains j && ((Region.ready .any ops listed).all (fun i => i == j || A.contains i) &&
    (A.all (fun i => !(i == j) && (match ops[i]?, ops[j]? with | some oi, some oj => isA oi.op && oi.apart ops oj | _, _ => false)) &&
    Region.ready .any ops (setAll listed A) == [j]))
def pickLate (ops : Array Oper) (listed : Array Bool) (rd : List Nat) : List Nat → Option Nat
  | [] => none
  | i :: r => cond (lateB ops listed i (rd.filter fun k => !(k == i))) (some i) (pickLate ops listed rd r)
def mkPlan (ops : Array Oper) : Nat → Array Bool → List PS
  | 0, _ => []
  | f + 1, listed => match findFree ops listed (Region.ready .any ops listed) with
    | some (.free i D) => .free i D :: mkPlan ops f (listed.setIfInBounds i true)
    | _ => (match pickLate ops listed (Region.ready .any ops listed) (Region.ready .any ops listed) with
      | some j => .late j ((Region.ready .any ops listed).filter fun i => !(i == j)) :: mkPlan ops f (listed.setIfInBounds j true)
      | none => [])
def planOK (ops : Array Oper) : List PS → Array Bool → Bool
  | [], listed => (Region.ready .any ops listed).isEmpty
  | .free i D :: r, listed => (Region.ready .any ops listed).contains i && (freeB ops listed i D && planOK ops r (listed.setIfInBounds i true))
  | .late j A :: r, listed => lateB ops listed j A && planOK ops r (listed.setIfInBounds j true)
/-- A read that was taken ahead of others: it must give the same behind them. -/
structure Ob where
  D : List Nat
  n : Nat
  o : Nat
  T : TypeId
  x : V
mutual
def V.beq : V → V → Bool
  | .bool a, .bool b => a == b
  | .int k m, .int k' q => decide (k = k') && decide (m = q)
  | .str s, .str t => decide (s = t)
  | .nilp, .nilp => true
  | .ptr n o, .ptr n' o' => Nat.beq n n' && Nat.beq o o'
  | .nilS, .nilS => true
  | .voidS, .voidS => true
  | .sl a b c d, .sl a' b' c' d' => Nat.beq a a' && (Nat.beq b b' && (Nat.beq c c' && Nat.beq d d'))
  | .nilM, .nilM => true
  | .map n, .map n' => Nat.beq n n'
  | .func f cs, .func f' cs' => Nat.beq f f' && V.beqL cs cs'
  | .nilF, .nilF => true
  | .iface t v, .iface t' v' => Nat.beq t t' && V.beq v v'
  | .nilI, .nilI => true
  | .agg cs, .agg cs' => V.beqL cs cs'
  | .tuple cs, .tuple cs' => V.beqL cs cs'
  | _, _ => false
def V.beqL : List V → List V → Bool
  | [], [] => true
  | x :: xs, y :: ys => V.beq x y && V.beqL xs ys
  | _, _ => false
end
noncomputable def loadV (ti : TI) (H : Heap) (n o : Nat) (T : TypeId) : Option V := match ti T, objCells H n with
  | some i, some cs => partV i cs o
  | _, _ => none
noncomputable def Ob.holds (ti : TI) (H : Heap) (b : Ob) : Bool := match loadV ti H b.n b.o b.T with | some y => V.beq y b.x | none => false
/-- A name that is kept, and not given yet. -/
noncomputable def freeName (H : Heap) (n : Nat) : Bool := (match H.get n with | some _ => false | none => true) && Nat.blt n H.nn
/-- One operation of such a region: a block that it makes bears the name that is kept for it. -/
noncomputable def evR (P : Program) (ti : TI) (ng : Con) (call : CallF) (ops : List Oper) (r0 : Nat) (e : Lk) (H : Heap) (i : Nat) (o : Oper) : Option (V × Heap) :=
  match wantedV ops e o with
  | some true => cond (isA o.op) (cond (freeName H (r0 + i)) (match evA ti ng e o (r0 + i) with | some (x, b) => some (x, H.set (r0 + i) b) | none => none) none) (match evP P ti ng e o with | some x => some (x, H) | none => evM ti ng call e H o)
  | some false => some (.undef, H)
  | none => none
/-- What a free operation comes to, and what must hold of it. -/
noncomputable def evFree (P : Program) (ti : TI) (ng : Con) (ops : List Oper) (e : Lk) (H : Heap) (D : List Nat) (o : Oper) : Option (V × List Ob) :=
  match wantedV ops e o with
  | some true => (match evP P ti ng e o with
    | some x => some (x, [])
    | none => (match o.op with
      | .load T p => (match evO ng e p with
        | some (.ptr n k) => (match loadV ti H n k T with | some x => cond (V.beq x x) (some (x, [⟨D, n, k, T, x⟩])) none | none => none)
        | _ => none)
      | _ => none))
  | some false => some (.undef, [])
  | none => none
noncomputable def evPlan (P : Program) (ti : TI) (ng : Con) (n : Nat) (call : CallF) (ops : List Oper) (r0 : Nat) : List PS → List Ob → Tr V → Heap → Option (Tr V × Heap)
  | [], _, e, H => some (e, H)
  | .free i D :: l, ob, e, H => (match ops[i]? with
    | some o => (match evFree P ti ng ops (Lk.only (o.looksAt ops.toArray) e.get) H D o with
      | some (x, ob') => (match putT e n o.dst x with | some e' => evPlan P ti ng n call ops r0 l (ob' ++ ob) e' H | none => none)
      | none => none)
    | none => none)
  | .late j A :: l, ob, e, H => cond (A.all fun i => freeName H (r0 + i)) (match ops[j]? with
    | some o => (match evR P ti ng call ops r0 (Lk.only (o.looksAt ops.toArray) e.get) H j o with
      | some (x, H') => cond (ob.all fun b => b.D.contains j || b.holds ti H') (match putT e n o.dst x with | some e' => evPlan P ti ng n call ops r0 l ob e' H' | none => none) none
      | none => none)
    | none => none) none

/-! ### code -/
inductive Ex where
  | normal
  | exit (id : Nat)
  | ret
noncomputable def evReg (P : Program) (ti : TI) (ng : Con) (call : CallF) (n : Nat) (ops : Array Oper) (draw : Bool) (D : List DV) (e : Tr V) (H : Heap) : Option (Ex × List DV × Tr V × Heap) :=
  cond draw
        (cond (Nat.beq (mkPlan ops ops.toList.length (Array.replicate ops.size false)).length ops.toList.length && planOK ops (mkPlan ops ops.toList.length (Array.replicate ops.size false)) (Array.replicate ops.size false))
          (match evPlan P ti ng n call ops.toList H.nn (mkPlan ops ops.toList.length (Array.replicate ops.size false)) [] e ⟨H.t, H.nn + ops.toList.length⟩ with | some (e', H') => some (.normal, D, e', H') | none => none) none)
        (match evOps P ti ng n call ops.toList ops.toList D e H with | some (D', e', H') => some (.normal, D', e', H') | none => none)
noncomputable def evC (P : Program) (ti : TI) (ng : Con) (call : CallF) (n : Nat) : Nat → Code → List DV → Tr V → Heap → Option (Ex × List DV × Tr V × Heap)
  | 0, _, _, _, _ => none
  | f + 1, c, D, e, H => match c with
    | .skip => some (.normal, D, e, H)
    | .label _ => some (.normal, D, e, H)
    | .region _ ops draw => evReg P ti ng call n ops draw D e H
    | .seq a b => (match evC P ti ng call n f a D e H with
      | some (.normal, D', e', H') => evC P ti ng call n f b D' e' H'
      | r => r)
    | .cond c x y => (match evO ng e.get c with
      | some (.bool true) => evC P ti ng call n f x D e H
      | some (.bool false) => evC P ti ng call n f y D e H
      | _ => none)
    | .block id b => (match evC P ti ng call n f b D e H with
      | some (.exit i, D', e', H') => cond (Nat.beq i id) (some (.normal, D', e', H')) (some (.exit i, D', e', H'))
      | r => r)
    | .loop b => (match evC P ti ng call n f b D e H with
      | some (.normal, D', e', H') => evC P ti ng call n f (.loop b) D' e' H'
      | r => r)
    | .exit id => some (.exit id, D, e, H)
    | .ret => some (.ret, D, e, H)
    | _ => none

/-! ### calls -/
/-- What is known of a function. -/
structure FnI where
  body : Code
  ntmps : Nat
  results : List ResultVar
/-- The functions' table, off the program. -/
def fnOf (P : Program) (f : FuncId) : Option FnI := match P.funcs[f]? with
  | some fn => (match fn.body with | some c => some ⟨c, fn.ntmps, fn.results.toList⟩ | none => none)
  | none => none
noncomputable def resV (ti : TI) (e : Lk) (H : Heap) : ResultVar → Option V
  | .tmp t => e t
  | .cell d T => match e d, ti T with
    | some (.ptr n o), some i => (match objCells H n with
      | some cs => partV i cs o
      | none => none)
    | _, _ => none
noncomputable def resL (ti : TI) (e : Lk) (H : Heap) : List ResultVar → Option (List V)
  | [] => some []
  | r :: rs => match resV ti e H r with
    | some x => (match resL ti e H rs with | some xs => some (x :: xs) | none => none)
    | none => none
def packV : List V → V
  | [x] => x
  | xs => .tuple xs
noncomputable def argT : Nat → List V → Tr V → Tr V
  | _, [], t => t
  | i, x :: xs, t => argT (i + 1) xs (t.set i x)
/-- A function's body: what it has put off, its slots and memory behind it. -/
noncomputable def evBody (P : Program) (ti : TI) (ng : Con) (call : CallF) (g : FuncId) (xs : List V) (H : Heap) : Option (List DV × Tr V × Heap × List ResultVar) :=
  match fnOf P g with
  | some fi => cond (Nat.ble xs.length fi.ntmps) (match evC P ti ng call fi.ntmps 100000 fi.body [] (argT 0 xs .leaf) H with
    | some (.exit _, _, _, _) => none
    | some (_, D, e, H') => some (D, e, H', fi.results)
    | none => none) none
  | none => none
noncomputable def evD (P : Program) (ti : TI) (ng : Con) (call : CallF) (g : FuncId) (xs : List V) (H : Heap) : Option (V × Heap) :=
  match evBody P ti ng call g xs H with
  | some ([], e, H', rs) => (match resL ti e.get H' rs with | some r => some (packV r, H') | none => none)
  | _ => none
/-- What was put off, the last first. -/
noncomputable def evDs (P : Program) (ti : TI) (ng : Con) (call : CallF) : List DV → Heap → Option Heap
  | [], H => some H
  | d :: D, H => match evD P ti ng call d.1 d.2 H with
    | some (_, H') => evDs P ti ng call D H'
    | none => none
/-- 'isM': calls whose contracts are known ('mod'); the others by their bodies. -/
noncomputable def evF (P : Program) (ti : TI) (ng : Con) (isM : FuncId → List V → Bool) (mod : CallF → CallF) : Nat → CallF
  | 0, _, _, _ => none
  | f + 1, g, xs, H => cond (isM g xs) (mod (evF P ti ng isM mod f) g xs H) (match evBody P ti ng (evF P ti ng isM mod f) g xs H with
      | some (D, e, H1, rs) => (match evDs P ti ng (evF P ti ng isM mod f) D H1 with
        | some H' => (match resL ti e.get H' rs with | some r => some (packV r, H') | none => none)
        | none => none)
      | none => none)

end Go.Proofs.YtncoklpecffokaaGreatDoor.Cc
