/-
  Part of the proof: the abstract machine, its soundness, contracts of functions.
-/
import Derived.Calls
import Derived.Orders
import Derived.KernelRfl
import Derived.Laws.Sem
import Derived.Laws.World
import Derived.Laws.Entries
import Derived.Laws.Rows
import Derived.Laws.Append
import Derived.Laws.StructEq
import Derived.Laws.Slices
import Derived.Laws.Concat
import Derived.Laws.Strings2
import Derived.Laws.Small
import Derived.Laws.AppendOwn
import Derived.Laws.MakeOwn
import Derived.Laws.CopyRow
import Derived.Laws.Cells
import Derived.Below
import Derived.Lib.ConvBytes
import Derived.Laws.BytesString
set_option linter.all false
/-
  AN ABSTRACT MACHINE for resolved code: values, operations, evaluator. Deterministic: no tape, no capacities, no drawn orders.
  Written for this claim. Its soundness over the model stands in the texts behind it.
-/
namespace Go.Proofs.Qq

/-- Abstract values: memory is named by row numbers. -/
inductive AV where
  | int (k : IntKind) (n : Int)
  | bool (b : Bool)
  | str (s : List UInt8)
  | ptr (a : Option (Nat × Nat))
  | slice (a : Option (Nat × Nat)) (len : Nat) (cap : Option Nat)
  | func (f : Nat) (first capt : List AV)
  | nilFunc
  | map (r : Option Nat)
  | nilIface
  | agg (cs : List AV)
  | tup (vs : List AV)

def AV.undef : AV := .tup []
instance : Inhabited AV := ⟨AV.undef⟩

def AV.cells : AV → List AV
  | .agg cs => cs
  | v => [v]

structure Row where
  cells : List AV
  own : Bool
  sz : Nat

inductive AObj where
  | dead
  | row (r : Row)

abbrev AHeap := List AObj

def hOf (H : AHeap) (i : Nat) : Option Row :=
  match H[i]? with
  | some (.row r) => some r
  | _ => none

inductive Opd where
  | tmp (t : Nat)
  | cst (v : AV)

abbrev Env := Nat → AV

def ev (env : Env) : Opd → AV
  | .tmp t => env t
  | .cst v => v

def upd (env : Env) (d : Nat) (v : AV) : Env := fun t => if t = d then v else env t

def updO (env : Env) (d : Option Nat) (v : AV) : Env :=
  match d with
  | some d => upd env d v
  | none => env

/-- The kinds of cells that are compared. -/
inductive CK where
  | int | bool | str
  deriving DecidableEq

/-- What '==' looks at. -/
inductive EqK where
  | bool | ptr | slc | fn
  | agg (ks : List CK)

inductive AOp where
  | mv (x : Opd)
  | nilck (x : Opd)
  | pick (c a b : Opd)
  | bin (op : BinOp) (x y : Opd)
  | eq (neg : Bool) (k : EqK) (x y : Opd)
  | un (op : UnOp) (x : Opd)
  | convInt (k : IntKind) (x : Opd)
  | convS (x : Opd)
  | mkfn (f : Nat) (first capt : List Opd)
  | fieldAddr (off : Nat) (x : Opd)
  | field (agg : Bool) (off size : Nat) (x : Opd)
  | indexAddr (size : Nat) (x i : Opd)
  | indexAddrA (len size : Nat) (x i : Opd)
  | indexA (agg : Bool) (len size : Nat) (x i : Opd)
  | indexS (x i : Opd)
  | extract (x : Opd) (i : Nat)
  | slice (size : Nat) (x : Opd) (lo hi mx : Option Opd)
  | sliceS (x : Opd) (lo hi : Option Opd)
  | sliceA (len size : Nat) (x : Opd) (lo hi mx : Option Opd)
  | s2ap (n : Nat) (x : Opd)
  | lenS (x : Opd)
  | lenStr (x : Opd)
  | lenC (n : Nat)
  | minmax (mx : Bool) (x : Opd) (xs : List Opd)
  | build (zero : List AV) (parts : List (Nat × Nat × Opd))
  | alloc (zero : List AV)
  | box (x : Opd)
  | bslice (size len : Nat) (zero : List AV) (parts : List (Nat × Nat × Opd))
  | mkslice (size bytes : Nat) (zero : List AV) (len cap : Opd)
  | load (agg : Bool) (size : Nat) (x : Opd)
  | store (size : Nat) (x v : Opd)
  | append (size bytes : Nat) (s x : Opd)
  | copy (size : Nat) (d s : Opd)
  | clear (zero : List AV) (x : Opd)
  | s2b (x : Opd)
  | b2s (x : Opd)
  | call (ext : Bool) (f : Opd) (args : List Opd)

structure ROp where
  dst : Option Nat
  guard : Option (Nat × Bool)
  op : AOp

inductive ACode where
  | skip
  | region (ops : List ROp)
  | dregion (ops : List ROp) (pairs : List (Nat × Nat))
  | seq (a b : ACode)
  | cond (c : Opd) (a b : ACode)
  | block (id : Nat) (b : ACode)
  | scope (b : ACode)
  | loop (b : ACode)
  | exit (id : Nat)
  | ret

inductive ARes where
  | tmp (t : Nat)
  | cell (t : Nat) (agg : Bool) (size : Nat)

structure AFun where
  ntmps : Nat
  results : List ARes
  body : ACode

/-! ### Pure operations -/
def binInt (op : BinOp) (k : IntKind) (x y : Int) : Option AV :=
  match op with
  | .add => some (.int k (k.wrap (x + y)))
  | .sub => some (.int k (k.wrap (x - y)))
  | .mul => some (.int k (k.wrap (x * y)))
  | .quo => if y = 0 then none else some (.int k (k.wrap (x.tdiv y)))
  | .rem => if y = 0 then none else some (.int k (x.tmod y))
  | .and => some (.int k (k.wrap (BitVec.ofInt k.bits x &&& BitVec.ofInt k.bits y).toNat))
  | .or => some (.int k (k.wrap (BitVec.ofInt k.bits x ||| BitVec.ofInt k.bits y).toNat))
  | .xor => some (.int k (k.wrap (BitVec.ofInt k.bits x ^^^ BitVec.ofInt k.bits y).toNat))
  | .andNot => some (.int k (k.wrap (BitVec.ofInt k.bits x &&& ~~~BitVec.ofInt k.bits y).toNat))
  | .eql => some (.bool (x == y))
  | .neq => some (.bool (x != y))
  | .lss => some (.bool (x < y))
  | .leq => some (.bool (x ≤ y))
  | .gtr => some (.bool (x > y))
  | .geq => some (.bool (x ≥ y))
  | _ => none

def binShift (left : Bool) (k : IntKind) (x y : Int) : Option AV :=
  if y < 0 then none
  else if left then some (.int k (k.wrap (x * 2 ^ (min y.toNat k.bits))))
  else some (.int k (x.fdiv (2 ^ (min y.toNat k.bits))))

def room : Nat := 140737488355328

def binStr (op : BinOp) (x y : List UInt8) : Option AV :=
  match op with
  | .add => if x.length + y.length ≤ room then some (.str (x ++ y)) else none
  | .eql => some (.bool (x == y))
  | .neq => some (.bool !(x == y))
  | .lss => some (.bool (Op.bytesLess x y))
  | .leq => some (.bool (Op.bytesLess x y || x == y))
  | .gtr => some (.bool !(Op.bytesLess x y || x == y))
  | .geq => some (.bool !(Op.bytesLess x y))
  | _ => none

def binA (op : BinOp) : AV → AV → Option AV
  | .int k x, .int j y =>
    match op with
    | .shl => binShift true k x y
    | .shr => binShift false k x y
    | _ => if k = j then binInt op k x y else none
  | .str x, .str y => binStr op x y
  | _, _ => none

def CK.eqs : CK → AV → AV → Option Bool
  | .int, .int k a, .int j b => if k = j then some (a == b) else none
  | .bool, .bool a, .bool b => some (a == b)
  | .str, .str a, .str b => some (a == b)
  | _, _, _ => none

def eqCells : List CK → List AV → List AV → Option Bool
  | [], [], [] => some true
  | k :: ks, a :: as, b :: bs =>
    match k.eqs a b, eqCells ks as bs with
    | some x, some y => some (x && y)
    | _, _ => none
  | _, _, _ => none

def eqA (k : EqK) (x y : AV) : Option Bool :=
  match k, x, y with
  | .bool, .bool a, .bool b => some (a == b)
  | .ptr, .ptr none, .ptr b => some b.isNone
  | .ptr, .ptr (some _), .ptr none => some false
  | .slc, .slice a _ c, .slice none _ none => some (a.isNone && c.isNone)
  | .fn, .nilFunc, .nilFunc => some true
  | .fn, .nilFunc, .func _ _ _ => some false
  | .fn, .func _ _ _, .nilFunc => some false
  | .agg ks, .agg a, .agg b => eqCells ks a b
  | _, _, _ => none

def unA (op : UnOp) (x : AV) : Option AV :=
  match op, x with
  | .neg, .int k n => some (.int k (k.wrap (0 - n)))
  | .xor, .int k n => binInt .xor k (if k.signed then -1 else k.max) n
  | .not, .bool b => some (.bool !b)
  | _, _ => none

def partA (agg : Bool) (off size : Nat) (cs : List AV) : Option AV :=
  if agg then (if off + size ≤ cs.length then some (.agg ((cs.drop off).take size)) else none) else cs[off]?

/-- A bound of a slice expression: a whole number from lo to hi. -/
def boundA (x : AV) (hi : Nat) : Option Nat :=
  match x with
  | .int _ n => if 0 ≤ n ∧ n ≤ hi then some n.toNat else none
  | _ => none

def loA (lo : Option AV) (h : Nat) : Option Nat :=
  match lo with
  | none => some 0
  | some v => boundA v h

def hiA (hi : Option AV) (len : Nat) : Option Nat :=
  match hi with
  | none => some len
  | some v => boundA v len

def addO (a : Option (Nat × Nat)) (n : Nat) : Option (Nat × Nat) := a.map fun p => (p.1, p.2 + n)

/-- 's[lo:hi:mx]': hi within the length (or the capacity that is known). -/
def sliceOf (size : Nat) (a : Option (Nat × Nat)) (len : Nat) (cap : Option Nat) (lo hi mx : Option AV) : Option AV :=
  match mx with
  | none =>
    match hiA hi (if hi.isSome = true then cap.getD len else len) with
    | none => none
    | some h =>
      match loA lo h with
      | none => none
      | some l =>
        match cap with
        | none => if l = 0 then some (.slice a h none) else if l < h ∧ 0 < size then some (.slice (addO a (l * size)) (h - l) none) else if l = h then some (.slice none 0 (some 0)) else none
        | some c => if l < c then some (.slice (addO a (l * size)) (h - l) (some (c - l))) else if l = h then some (.slice none 0 (some 0)) else none
  | some m =>
    match hi with
    | none => none
    | some hv =>
      match boundA m (cap.getD len) with
      | none => none
      | some m =>
        match boundA hv m with
        | none => none
        | some h =>
          match loA lo h with
          | none => none
          | some l => if l < m then some (.slice (addO a (l * size)) (h - l) (some (m - l))) else none

def AV.noTup : AV → Bool
  | .tup _ => false
  | _ => true

def fillA (cells : List AV) : List (Nat × Nat × AV) → Option (List AV)
  | [] => some cells
  | (off, size, v) :: rest =>
    if v.cells.length = size ∧ off + size ≤ cells.length ∧ v.noTup = true then fillA (cells.take off ++ v.cells ++ cells.drop (off + size)) rest
    else none

def evParts (env : Env) (ps : List (Nat × Nat × Opd)) : List (Nat × Nat × AV) := ps.map fun p => (p.1, p.2.1, ev env p.2.2)

def minmax2 (mx : Bool) : AV → AV → Option AV
  | .int k x, .int _ y => some (.int k (if mx then (if y > x then y else x) else (if y < x then y else x)))
  | _, _ => none

def foldMM (mx : Bool) : AV → List AV → Option AV
  | x, [] => some x
  | x, y :: r =>
    match minmax2 mx x y with
    | some z => foldMM mx z r
    | none => none

/-! ### Memory -/
def lenOfA : AV → Option Nat
  | .slice _ n _ => some n
  | .str s => some s.length
  | _ => none

def bytesA (s : List UInt8) : List AV := s.map fun b => .int .u8 b.toNat

/-- The first n * sz cells behind a slice, or a text's bytes. -/
def srcCells (H : AHeap) (sz n : Nat) : AV → Option (List AV)
  | .slice (some (i, o)) _ _ =>
    match hOf H i with
    | some r => if o + n * sz ≤ r.cells.length then some ((r.cells.drop o).take (n * sz)) else none
    | none => none
  | .slice none _ _ => if n = 0 then some [] else none
  | .str s => if n ≤ s.length ∧ sz = 1 then some (bytesA (s.take n)) else none
  | _ => none

def splice (L : List AV) (o : Nat) (xs : List AV) : List AV := L.take o ++ xs ++ L.drop (o + xs.length)

/-- Cells written into a row of one's own. -/
def wrRow (H : AHeap) (i o : Nat) (xs : List AV) : Option AHeap :=
  match hOf H i with
  | some r => if r.own = true ∧ o + xs.length ≤ r.cells.length then some (H.set i (.row { r with cells := splice r.cells o xs })) else none
  | none => none

def newRow (H : AHeap) (cells : List AV) (sz : Nat) : AHeap := H ++ [.row ⟨cells, true, sz⟩]

/-- What an operation on memory comes to: a value, the heap, which old row was written. -/
abbrev MR := AV × AHeap × Option Nat

def appendA (sz bytes : Nat) (H : AHeap) (s x : AV) : Option MR :=
  match lenOfA x with
  | none => none
  | some n =>
    match srcCells H sz n x with
    | none => none
    | some xs =>
      match s with
      | .slice a len cap =>
        if n = 0 then some (s, H, none)
        else if 0 < sz ∧ 0 < bytes ∧ (len + n) * bytes ≤ room then
          match a with
          | none => if len = 0 ∧ cap = none then some (.slice (some (H.length, 0)) n none, newRow H xs sz, none) else none
          | some (i, o) =>
            match hOf H i with
            | none => none
            | some r =>
              match cap with
              | some c =>
                if c < len + n ∧ o + len * sz ≤ r.cells.length then
                  some (.slice (some (H.length, 0)) (len + n) none, newRow H ((r.cells.drop o).take (len * sz) ++ xs) sz, none)
                else none
              | none =>
                if r.own = true ∧ o = 0 ∧ r.sz = sz ∧ len * sz ≤ r.cells.length then
                  if (len + n) * sz ≤ r.cells.length then
                    some (.slice (some (i, 0)) (len + n) none, H.set i (.row { r with cells := splice r.cells (len * sz) xs }), some i)
                  else some (.slice (some (H.length, 0)) (len + n) none, newRow (H.set i .dead) (r.cells.take (len * sz) ++ xs) sz, some i)
                else none
        else none
      | _ => none

def copyTo (H : AHeap) (i o : Nat) (xs : List AV) (n : Nat) : Option MR :=
  if xs.length = 0 then some (.int .i64 n, H, none)
  else match wrRow H i o xs with
    | some H' => some (.int .i64 n, H', some i)
    | none => none

def copyA (sz : Nat) (H : AHeap) (d s : AV) : Option MR :=
  match lenOfA s, d with
  | some n, .slice a len _ =>
    match srcCells H sz (min n len) s with
    | none => none
    | some xs =>
      match a with
      | none => if min n len = 0 then some (.int .i64 0, H, none) else none
      | some (i, o) => copyTo H i o xs (min n len)
  | _, _ => none

def repCells (zero : List AV) : Nat → List AV
  | 0 => []
  | n + 1 => zero ++ repCells zero n

def clearA (zero : List AV) (H : AHeap) : AV → Option MR
  | .slice a n _ =>
    match a with
    | none => some (.tup [], H, none)
    | some (i, o) =>
      if n = 0 then some (.tup [], H, none)
      else match wrRow H i o (repCells zero n) with
        | some H' => some (.tup [], H', some i)
        | none => none
  | _ => none

def byteOfA : AV → Option UInt8
  | .int .u8 n => some (UInt8.ofNat n.toNat)
  | _ => none

def bytesOfA : List AV → Option (List UInt8)
  | [] => some []
  | c :: r =>
    match byteOfA c, bytesOfA r with
    | some b, some bs => some (b :: bs)
    | _, _ => none

def ptrAt (H : AHeap) (x : AV) : Option (Nat × Nat × Row) :=
  match x with
  | .ptr (some (i, o)) =>
    match hOf H i with
    | some r => some (i, o, r)
    | none => none
  | _ => none

def loadA (agg : Bool) (size : Nat) (H : AHeap) (x : AV) : Option AV :=
  match ptrAt H x with
  | some (_, o, r) => partA agg o size r.cells
  | none => none

def b2sA (H : AHeap) : AV → Option AV
  | .slice none _ _ => some (.str [])
  | .slice (some (i, o)) len c =>
    match srcCells H 1 len (.slice (some (i, o)) len c) with
    | none => none
    | some cs =>
      match bytesOfA cs with
      | some bs => some (.str bs)
      | none => none
  | _ => none

/-- A semantics of calls. -/
abbrev CS := Nat → List AV → AHeap → Option (AV × AHeap × Nat)

def nilckA : AV → Option AV
  | .ptr (some p) => some (.ptr (some p))
  | .func f a b => some (.func f a b)
  | _ => none

/-- What reads no memory. -/
def pureStep (env : Env) : AOp → Option AV
  | .mv x => some (ev env x)
  | .nilck x => nilckA (ev env x)
  | .pick c a b =>
    match ev env c with
    | .bool t => some (if t then ev env a else ev env b)
    | _ => none
  | .bin op x y => binA op (ev env x) (ev env y)
  | .eq neg k x y =>
    match eqA k (ev env x) (ev env y) with
    | some b => some (.bool (if neg then !b else b))
    | none => none
  | .un op x => unA op (ev env x)
  | .convInt k x =>
    match ev env x with
    | .int _ n => some (.int k (k.wrap n))
    | _ => none
  | .convS x =>
    match ev env x with
    | .str s => some (.str s)
    | _ => none
  | .mkfn f first capt => some (.func f (first.map (ev env)) (capt.map (ev env)))
  | .fieldAddr off x =>
    match ev env x with
    | .ptr (some (i, o)) => some (.ptr (some (i, o + off)))
    | _ => none
  | .field agg off size x =>
    match ev env x with
    | .agg cs => partA agg off size cs
    | _ => none
  | .indexAddr size x ix =>
    match ev env x, ev env ix with
    | .slice (some (i, o)) len _, .int _ n => if 0 ≤ n ∧ n < len then some (.ptr (some (i, o + n.toNat * size))) else none
    | _, _ => none
  | .indexAddrA len size x ix =>
    match ev env x, ev env ix with
    | .ptr (some (i, o)), .int _ n => if 0 ≤ n ∧ n < len then some (.ptr (some (i, o + n.toNat * size))) else none
    | _, _ => none
  | .indexA agg len size x ix =>
    match ev env x, ev env ix with
    | .agg cs, .int _ n => if 0 ≤ n ∧ n < len then partA agg (n.toNat * size) size cs else none
    | _, _ => none
  | .indexS x ix =>
    match ev env x, ev env ix with
    | .str s, .int _ n =>
      if 0 ≤ n then
        match s[n.toNat]? with
        | some b => some (.int .u8 b.toNat)
        | none => none
      else none
    | _, _ => none
  | .extract x i =>
    match ev env x with
    | .tup vs => vs[i]?
    | _ => none
  | .slice size x lo hi mx =>
    match ev env x with
    | .slice a len cap => sliceOf size a len cap (lo.map (ev env)) (hi.map (ev env)) (mx.map (ev env))
    | _ => none
  | .sliceS x lo hi =>
    match ev env x with
    | .str s =>
      match hiA (hi.map (ev env)) s.length with
      | none => none
      | some h =>
        match loA (lo.map (ev env)) h with
        | none => none
        | some l => some (.str ((s.take h).drop l))
    | _ => none
  | .sliceA len size x lo hi mx =>
    match ev env x with
    | .ptr (some p) => sliceOf size (some p) len (some len) (lo.map (ev env)) (hi.map (ev env)) (mx.map (ev env))
    | _ => none
  | .s2ap n x =>
    match ev env x with
    | .slice (some p) len _ => if n ≤ len then some (.ptr (some p)) else none
    | _ => none
  | .lenS x =>
    match ev env x with
    | .slice _ n _ => some (.int .i64 n)
    | _ => none
  | .lenStr x =>
    match ev env x with
    | .str s => some (.int .i64 s.length)
    | _ => none
  | .lenC n => some (.int .i64 n)
  | .minmax mx x xs => foldMM mx (ev env x) (xs.map (ev env))
  | .build zero parts =>
    match fillA zero (evParts env parts) with
    | some cs => some (.agg cs)
    | none => none
  | _ => none

/-- What makes, reads or writes memory. -/
def memStep (env : Env) (H : AHeap) : AOp → Option MR
  | .alloc zero => some (.ptr (some (H.length, 0)), newRow H zero 0, none)
  | .box x => if (ev env x).noTup = true then some (.ptr (some (H.length, 0)), newRow H (ev env x).cells 0, none) else none
  | .bslice size len zero parts =>
    match fillA (repCells zero len) (evParts env parts) with
    | some cs => some (.slice (some (H.length, 0)) len none, newRow H cs size, none)
    | none => none
  | .mkslice size bytes zero len cap =>
    match ev env len, ev env cap with
    | .int .i64 l, .int .i64 c =>
      if 0 ≤ l ∧ l ≤ c ∧ bytes * c ≤ room ∧ c ≤ room then some (.slice (some (H.length, 0)) l.toNat none, newRow H (repCells zero c.toNat) size, none) else none
    | _, _ => none
  | .load agg size x =>
    match loadA agg size H (ev env x) with
    | some v => some (v, H, none)
    | none => none
  | .store size x v =>
    match ev env x with
    | .ptr (some (i, o)) =>
      if (ev env v).cells.length = size ∧ (ev env v).noTup = true then
        match wrRow H i o (ev env v).cells with
        | some H' => some (.undef, H', some i)
        | none => none
      else none
    | _ => none
  | .append size bytes s x => appendA size bytes H (ev env s) (ev env x)
  | .copy size d s => copyA size H (ev env d) (ev env s)
  | .clear zero x => clearA zero H (ev env x)
  | .s2b x =>
    match ev env x with
    | .str s => some (.slice (some (H.length, 0)) s.length none, H ++ [.row ⟨bytesA s, false, 0⟩], none)
    | _ => none
  | .b2s x =>
    match b2sA H (ev env x) with
    | some v => some (v, H, none)
    | none => none
  | _ => none

def AOp.isPure : AOp → Bool
  | .alloc _ | .box _ | .bslice .. | .mkslice .. | .load .. | .store .. | .append .. | .copy .. | .clear .. | .s2b _ | .b2s _ | .call .. => false
  | _ => true

structure AS where
  env : Env
  heap : AHeap
  low : Nat

def lower (low : Nat) : Option Nat → Nat
  | some i => min low i
  | none => low

/-- One operation: the value, the heap, the least old row that was written. -/
def opStep (C : CS) (env : Env) (H : AHeap) (low : Nat) (o : AOp) : Option (AV × AHeap × Nat) :=
  match o with
  | .call ext f args =>
    match ev env f with
    | .func f first capt =>
      match C f (first ++ args.map (ev env) ++ capt) H with
      | some (v, H', l) => if ext = true ∧ l < H.length then none else some (v, H', min low l)
      | none => none
    | _ => none
  | o =>
    if o.isPure then
      match pureStep env o with
      | some v => some (v, H, low)
      | none => none
    else
      match memStep env H o with
      | some (v, H', wr) => some (v, H', lower low wr)
      | none => none

def wantedA (env : Env) : Option (Nat × Bool) → Bool
  | none => true
  | some (t, b) =>
    match env t with
    | .bool c => c == b
    | _ => false

def ropStep (C : CS) (s : AS) (o : ROp) : Option AS :=
  if wantedA s.env o.guard then
    match opStep C s.env s.heap s.low o.op with
    | some (v, H, low) => some ⟨updO s.env o.dst v, H, low⟩
    | none => none
  else some { s with env := updO s.env o.dst .undef }

def aOps (C : CS) : List ROp → AS → Option AS
  | [], s => some s
  | o :: r, s =>
    match ropStep C s o with
    | some s' => aOps C r s'
    | none => none

/-! ### Which rows an operation looks at, and which it writes (for regions whose order is open) -/
def idOf : AV → List Nat
  | .ptr (some (i, _)) => [i]
  | .slice (some (i, _)) _ _ => [i]
  | _ => []

def touchedA (env : Env) : AOp → List Nat
  | .load _ _ x => idOf (ev env x)
  | .store _ x _ => idOf (ev env x)
  | .append _ _ s x => idOf (ev env s) ++ idOf (ev env x)
  | .copy _ d s => idOf (ev env d) ++ idOf (ev env s)
  | .clear _ x => idOf (ev env x)
  | .b2s x => idOf (ev env x)
  | _ => []

def writesA (env : Env) : AOp → List Nat
  | .store _ x _ => idOf (ev env x)
  | .append _ _ s _ => idOf (ev env s)
  | .copy _ d _ => idOf (ev env d)
  | .clear _ x => idOf (ev env x)
  | _ => []

/-- The same, and which rows were looked at and written. -/
def aOpsF (C : CS) : List ROp → AS → Option (AS × List (List Nat × List Nat))
  | [], s => some (s, [])
  | o :: r, s =>
    match ropStep C s o with
    | some s' =>
      match aOpsF C r s' with
      | some (z, l) => some (z, (if wantedA s.env o.guard then (touchedA s.env o.op, writesA s.env o.op) else ([], [])) :: l)
      | none => none
    | none => none

def apartB (a b : List Nat) : Bool := a.all fun i => b.all fun j => i != j

def pairOk (l : List (List Nat × List Nat)) (p : Nat × Nat) : Bool :=
  match l[p.1]?, l[p.2]? with
  | some a, some b => apartB a.2 b.1 && apartB b.2 a.1
  | _, _ => false

/-! ### Code -/
inductive AExit where
  | norm | exit (id : Nat) | ret

def exitIn (id : Nat) : Option (AExit × AS) → Option (AExit × AS)
  | some (.exit j, s) => if j = id then some (.norm, s) else some (.exit j, s)
  | r => r

def thenA (k : AS → Option (AExit × AS)) : Option (AExit × AS) → Option (AExit × AS)
  | some (.norm, s) => k s
  | r => r

def condA (v : AV) (x y : Option (AExit × AS)) : Option (AExit × AS) :=
  match v with
  | .bool true => x
  | .bool false => y
  | _ => none

def dregionA (C : CS) (ops : List ROp) (pairs : List (Nat × Nat)) (s : AS) : Option (AExit × AS) :=
  match aOpsF C ops s with
  | some (z, l) => if pairs.all (pairOk l) then some (.norm, z) else none
  | none => none

def regionA (C : CS) (ops : List ROp) (s : AS) : Option (AExit × AS) :=
  match aOps C ops s with
  | some z => some (.norm, z)
  | none => none

def aCode (C : CS) : Nat → ACode → AS → Option (AExit × AS)
  | 0, _, _ => none
  | _ + 1, .skip, s => some (.norm, s)
  | _ + 1, .region ops, s => regionA C ops s
  | _ + 1, .dregion ops pairs, s => dregionA C ops pairs s
  | n + 1, .seq a b, s => thenA (aCode C n b) (aCode C n a s)
  | n + 1, .cond c a b, s => condA (ev s.env c) (aCode C n a s) (aCode C n b s)
  | n + 1, .block id b, s => exitIn id (aCode C n b s)
  | n + 1, .scope b, s => aCode C n b s
  | n + 1, .loop b, s => thenA (aCode C n (.loop b)) (aCode C n b s)
  | _ + 1, .exit id, s => some (.exit id, s)
  | _ + 1, .ret, s => some (.ret, s)

def resA (s : AS) : ARes → Option AV
  | .tmp t => some (s.env t)
  | .cell t agg size => loadA agg size s.heap (s.env t)

def resAll (s : AS) : List ARes → Option (List AV)
  | [] => some []
  | r :: rs =>
    match resA s r, resAll s rs with
    | some v, some vs => some (v :: vs)
    | _, _ => none

def resOf (s : AS) (rs : List ARes) : Option AV :=
  match resAll s rs with
  | some [v] => some v
  | some vs => some (.tup vs)
  | none => none

def envOf (args : List AV) : Env := fun t => args.getD t .undef

def outA (rs : List ARes) : Option (AExit × AS) → Option (AV × AHeap × Nat)
  | some (.norm, s) | some (.ret, s) =>
    match resOf s rs with
    | some v => some (v, s.heap, s.low)
    | none => none
  | _ => none

inductive AFn where
  | code (f : AFun)
  | prim (p : List AV → AHeap → Option (AV × AHeap × Nat))

def enterA (C : CS) (n : Nat) (f : AFun) (args : List AV) (H : AHeap) : Option (AV × AHeap × Nat) :=
  outA f.results (aCode C n f.body ⟨envOf args, H, H.length⟩)

def aCall (T : Nat → Option AFn) : Nat → CS
  | 0, _, _, _ => none
  | n + 1, f, args, H =>
    match T f with
    | some (.code fn) => enterA (aCall T n) n fn args H
    | some (.prim p) => p args H
    | none => none

end Go.Proofs.Qq

/-
  The Bool check that resolved code stands for loaded code: operation by operation.
-/
namespace Go.Proofs.Qq

def okConst1 : Value → AV → Bool
  | .int k n, .int j m => decide (k = j) && decide (n = m)
  | .bool b, .bool c => b == c
  | .string s, .str l => s.data.toList == l
  | .pointer none, .ptr none => true
  | .slice none 0 0, .slice none 0 none => true
  | .nilFunc, .nilFunc => true
  | .nilIface, .nilIface => true
  | _, _ => false

def okCells : List Value → List AV → Bool
  | [], [] => true
  | v :: vs, a :: as => okConst1 v a && okCells vs as
  | _, _ => false

def okConst (v : Value) (a : AV) : Bool :=
  match v, a with
  | .agg vs, .agg cs => okCells vs.toList cs
  | v, a => okConst1 v a

def okOpd : Operand → Opd → Bool
  | .tmp t, .tmp u => t == u
  | .const v, .cst a => okConst v a
  | .func f, .cst (.func g [] []) => f == g
  | _, _ => false

def okOpds : List Operand → List Opd → Bool
  | [], [] => true
  | x :: xs, y :: ys => okOpd x y && okOpds xs ys
  | _, _ => false

def okOpt : Option Operand → Option Opd → Bool
  | none, none => true
  | some x, some y => okOpd x y
  | _, _ => false

def sizeIs (P : Program) (t : TypeId) (n : Nat) : Bool := (P.info? t).map (·.size) == some n
def isAggB (d : Option TypeDesc) : Bool := match d with | some (.struct _) | some (.array _ _) => true | _ => false
def aggIs (P : Program) (t : TypeId) (b : Bool) : Bool := (P.underlying t).isSome && (isAggB (P.underlying t) == b)
def zeroIs (P : Program) (t : TypeId) (z : List AV) : Bool :=
  match P.info? t with
  | some i =>
    match i.zero with
    | some v => okCells v.cells.toList z && v.cells.size == i.size
    | none => false
  | none => false

/-- Types whose values are compared cell by cell: the kinds of the cells. -/
def tagsFs (g : TypeId → Option (List CK)) : List Field → Nat → Option (List CK)
  | [], _ => some []
  | f :: fs, off =>
    match g f.type with
    | some a =>
      if f.name != "_" && f.offset == off then
        match tagsFs g fs (off + a.length) with
        | some b => some (a ++ b)
        | none => none
      else none
    | none => none

def repTags (a : List CK) : Nat → List CK
  | 0 => []
  | n + 1 => a ++ repTags a n

def tagsT (P : Program) : Nat → TypeId → Option (List CK)
  | 0, _ => none
  | d + 1, t =>
    match P.underlying t with
    | some .bool => if sizeIs P t 1 then some [.bool] else none
    | some (.int _) => if sizeIs P t 1 then some [.int] else none
    | some .string => if sizeIs P t 1 then some [.str] else none
    | some (.struct fs) =>
      if P.stoodInHeld t then none
      else match tagsFs (tagsT P d) fs.toList 0 with
        | some l => if sizeIs P t l.length then some l else none
        | none => none
    | some (.array n e) =>
      match tagsT P d e with
      | some a => if sizeIs P t (n * a.length) then some (repTags a n) else none
      | none => none
    | _ => none

def okEq (P : Program) (t : TypeId) : EqK → Bool
  | .bool => match P.underlying t with | some .bool => true | _ => false
  | .ptr => match P.underlying t with | some (.pointer _) => true | _ => false
  | .slc => match P.underlying t with | some (.slice _) => true | _ => false
  | .fn => match P.underlying t with | some (.func _ _ _) => true | _ => false
  | .agg ks => tagsT P 20 t == some ks && isAggB (P.underlying t) && !(P.eqGuardType P.depth t)

def okParts : List (Nat × Operand) → List (Nat × Nat × Opd) → (Nat → Option (Nat × Nat)) → Bool
  | [], [], _ => true
  | (i, x) :: r, (off, size, y) :: s, pl => (pl i == some (off, size)) && okOpd x y && okParts r s pl
  | _, _, _ => false

def fieldOff (P : Program) (fs : Array Field) (i : Nat) : Option (Nat × Nat) := (fs[i]?).map fun f => (f.offset, P.cellsOf f.type)
def allSized (P : Program) (fs : Array Field) : Bool := fs.toList.all fun f => (P.info? f.type).isSome

def okBuiltin (P : Program) (b : Builtin) (args : List Operand) (ts : List TypeId) (a : AOp) : Bool :=
  match b, args, ts, a with
  | .len, [x], [t], .lenS y => (match P.underlying t with | some (.slice _) => true | _ => false) && okOpd x y
  | .len, [x], [t], .lenStr y => (match P.underlying t with | some .string => true | _ => false) && okOpd x y
  | .len, [_], [t], .lenC n =>
    (match P.underlying t with
     | some (.array m _) => m == n
     | some (.pointer u) => (match P.underlying u with | some (.array m _) => m == n | _ => false)
     | _ => false)
  | .max, x :: xs, _, .minmax true y ys => okOpd x y && okOpds xs ys
  | .min, x :: xs, _, .minmax false y ys => okOpd x y && okOpds xs ys
  | .append, [s, x], [t, u], .append size bytes s' x' =>
    (match P.underlying t with
     | some (.slice e) =>
       (match P.info? e with
        | some i => i.size == size && i.bytes == bytes && (match i.zero with | some z => z.cells.size == size | none => false)
        | none => false)
     | _ => false) &&
    (match P.underlying u with | some (.slice _) | some .string => true | _ => false) && okOpd s s' && okOpd x x'
  | .copy, [d, s], [t, _], .copy size d' s' =>
    (match P.underlying t with | some (.slice e) => sizeIs P e size | _ => false) && okOpd d d' && okOpd s s'
  | .clear, [x], [t], .clear zero y =>
    (match P.underlying t with | some (.slice e) => zeroIs P e zero | _ => false) && okOpd x y
  | _, _, _, _ => false

def okOp (P : Program) : Op → AOp → Bool
  | .move x, .mv y => okOpd x y
  | .assign x, .mv y => okOpd x y
  | .nilCheck x, .nilck y => okOpd x y
  | .pick c a b, .pick c' a' b' => okOpd c c' && okOpd a a' && okOpd b b'
  | .binOp op _ x y _, .bin op' x' y' => decide (op = op') && okOpd x x' && okOpd y y'
  | .binOp op t x y _, .eq neg k x' y' => decide (op = if neg then .neq else .eql) && okEq P t k && okOpd x x' && okOpd y y'
  | .unOp op _ x, .un op' y => decide (op = op') && okOpd x y
  | .convert s t x, .convInt k y => (P.underlying s).isSome && (match P.underlying t with | some (.int j) => decide (j = k) | _ => false) && okOpd x y
  | .convert s t x, .convS y => (match P.underlying s, P.underlying t with | some .string, some .string => true | _, _ => false) && okOpd x y
  | .convert s t x, .s2b y =>
    (match P.underlying s, P.underlying t with | some .string, some (.slice e) => (match P.underlying e with | some (.int .u8) => true | _ => false) | _, _ => false) && okOpd x y
  | .convert s t x, .b2s y =>
    (match P.underlying s, P.underlying t with | some (.slice e), some .string => (match P.underlying e with | some (.int .u8) => true | _ => false) | _, _ => false) && okOpd x y
  | .makeFunc (.func f) first capt, .mkfn g first' capt' => f == g && okOpds first.toList first' && okOpds capt.toList capt'
  | .fieldAddr s x f, .fieldAddr off y =>
    (match P.underlying s with
     | some (.struct fs) => (match fs[f]? with | some fd => fd.offset == off && (match P.info? fd.type with | some i => i.size != 0 | none => false) | none => false)
     | _ => false) && okOpd x y
  | .field t x f, .field agg off size y =>
    (match P.underlying t with
     | some (.struct fs) => (match fs[f]? with | some fd => fd.offset == off && aggIs P fd.type agg && sizeIs P fd.type size | none => false)
     | _ => false) && okOpd x y
  | .indexAddr t x i, .indexAddr size y j => (match P.underlying t with | some (.slice e) => sizeIs P e size | _ => false) && okOpd x y && okOpd i j
  | .indexAddr t x i, .indexAddrA len size y j => (match P.underlying t with | some (.array n e) => n == len && sizeIs P e size | _ => false) && okOpd x y && okOpd i j
  | .index t x i, .indexA agg len size y j =>
    (match P.underlying t with | some (.array n e) => n == len && aggIs P e agg && sizeIs P e size | _ => false) && okOpd x y && okOpd i j
  | .index t x i, .indexS y j => (match P.underlying t with | some .string => true | _ => false) && okOpd x y && okOpd i j
  | .extract x i, .extract y j => okOpd x y && i == j
  | .slice t x lo hi mx, .slice size y lo' hi' mx' =>
    (match P.underlying t with | some (.slice e) => sizeIs P e size | _ => false) && okOpd x y && okOpt lo lo' && okOpt hi hi' && okOpt mx mx'
  | .slice t x lo hi none, .sliceS y lo' hi' => (match P.underlying t with | some .string => true | _ => false) && okOpd x y && okOpt lo lo' && okOpt hi hi'
  | .slice t x lo hi mx, .sliceA len size y lo' hi' mx' =>
    (match P.underlying t with
     | some (.array n e) => n == len && sizeIs P e size
     | some (.pointer u) => (match P.underlying u with | some (.array n e) => n == len && sizeIs P e size | _ => false)
     | _ => false) && okOpd x y && okOpt lo lo' && okOpt hi hi' && okOpt mx mx'
  | .sliceToArrayPointer t x, .s2ap n y => (match P.underlying t with | some (.array m _) => m == n | _ => false) && okOpd x y
  | .build t parts, .build zero parts' =>
    zeroIs P t zero &&
    (match P.underlying t with
     | some (.struct fs) => allSized P fs && okParts parts.toList parts' (fieldOff P fs)
     | some (.array _ e) => (P.info? e).isSome && okParts parts.toList parts' (fun i => some (i * P.cellsOf e, P.cellsOf e))
     | _ => false)
  | .alloc e, .alloc zero => zeroIs P e zero
  | .box _ x, .box y => okOpd x y
  | .buildSlice t len parts, .bslice size len' zero parts' =>
    (match P.underlying t with
     | some (.slice e) => sizeIs P e size && zeroIs P e zero && decide (len * size ≤ 16777216) && okParts parts.toList parts' (fun i => some (i * size, size))
     | _ => false) && len == len'
  | .makeSlice t l c, .mkslice size bytes zero l' c' =>
    (match P.underlying t with
     | some (.slice e) => sizeIs P e size && zeroIs P e zero && ((P.info? e).map (·.bytes) == some bytes)
     | _ => false) && okOpd l l' && okOpd c c'
  | .load t x, .load agg size y => aggIs P t agg && sizeIs P t size && okOpd x y
  | .store t x v, .store size y v' => sizeIs P t size && okOpd x y && okOpd v v'
  | .call c, a =>
    match c.callee, a with
    | .builtin b, a => okBuiltin P b c.args.toList c.argTypes.toList a
    | .value f, .call _ f' args' => okOpd f f' && okOpds c.args.toList args'
    | _, _ => false
  | _, _ => false

def okGuard (ops : Array Oper) : Option (Nat × Bool) → Option (Nat × Bool) → Bool
  | none, none => true
  | some (j, b), some (t, c) => ((ops[j]?).bind (·.dst) == some t) && b == c
  | _, _ => false

def okDst (nt : Nat) : Option Tmp → Option Nat → Bool
  | none, none => true
  | some d, some e => d == e && decide (d < nt)
  | _, _ => false

def okROp (P : Program) (nt : Nat) (ops : Array Oper) (o : Oper) (r : ROp) : Bool :=
  okDst nt o.dst r.dst && okGuard ops o.guard r.guard && okOp P o.op r.op

def okROps (P : Program) (nt : Nat) (ops : Array Oper) : List Oper → List ROp → Bool
  | [], [] => true
  | o :: os, r :: rs => okROp P nt ops o r && okROps P nt ops os rs
  | _, _ => false

/-! Regions whose order is open: for each two operations, one waits for the other, or they are apart. -/
/-- Which operations must stand ahead of each, as a row of rows. -/
def preds : List Oper → List (List Nat) → List (List Nat)
  | [], acc => acc
  | o :: r, acc =>
    preds r (acc ++ [(o.after.toList.filterMap fun e => if Region.binds .any e then some e.on else none).flatMap fun j => j :: acc.getD j []])

def opdTmps : Opd → List Nat
  | .tmp t => [t]
  | .cst _ => []

def AOp.opds : AOp → List Opd
  | .mv x | .nilck x | .un _ x | .convInt _ x | .convS x | .fieldAddr _ x | .field _ _ _ x | .extract x _ | .s2ap _ x | .lenS x | .lenStr x | .box x | .load _ _ x | .clear _ x | .s2b x | .b2s x => [x]
  | .pick c a b => [c, a, b]
  | .bin _ x y | .eq _ _ x y | .indexAddr _ x y | .indexAddrA _ _ x y | .indexA _ _ _ x y | .indexS x y | .store _ x y | .append _ _ x y | .copy _ x y | .mkslice _ _ _ x y => [x, y]
  | .mkfn _ first capt => first ++ capt
  | .slice _ x lo hi mx | .sliceA _ _ x lo hi mx => x :: (lo.toList ++ hi.toList ++ mx.toList)
  | .sliceS x lo hi => x :: (lo.toList ++ hi.toList)
  | .lenC _ | .alloc _ => []
  | .minmax _ x xs => x :: xs
  | .build _ parts | .bslice _ _ _ parts => parts.map fun p => p.2.2
  | .call _ f args => f :: args

/-- The slots that an operation looks at. -/
def rlooks (r : ROp) : List Nat :=
  r.op.opds.flatMap opdTmps ++ (match r.guard with | some (t, _) => [t] | none => [])

def rApart (x y : ROp) : Bool :=
  (match x.dst with
   | some d => !(rlooks y).contains d && y.dst != some d
   | none => true) &&
  (match y.dst with
   | some d => !(rlooks x).contains d
   | none => true)

inductive MK where
  | none | new | read | write | call
  deriving DecidableEq

def memKind : AOp → MK
  | .alloc _ | .box _ | .bslice .. | .mkslice .. | .s2b _ => .new
  | .load .. | .b2s _ => .read
  | .store .. | .append .. | .copy .. | .clear .. => .write
  | .call .. => .call
  | _ => .none

def isExt : AOp → Bool
  | .call ext _ _ => ext
  | _ => false

/-- May two operations come in either order, as far as memory goes? 'listed': the pair is held at run time. -/
def memApart (listed : Bool) (a b : AOp) : Bool :=
  match memKind a, memKind b with
  | .none, _ | _, .none => true
  | .new, .call => isExt b
  | .call, .new => isExt a
  | .new, _ | _, .new => true
  | .read, .read => true
  | .call, .call => isExt a && isExt b
  | .call, .read => isExt a
  | .read, .call => isExt b
  | .write, .read | .read, .write | .write, .write => listed
  | _, _ => false

def allPairs (n : Nat) : List (Nat × Nat) := (List.range n).flatMap fun j => (List.range j).map fun i => (i, j)

/-- The same as bits of numbers, for the check. -/
def bitsOf (acc : List Nat) : List Nat → Nat
  | [] => 0
  | j :: js => (2 ^ j ||| acc.getD j 0) ||| bitsOf acc js

def masks : List Oper → List Nat → List Nat
  | [], acc => acc
  | o :: r, acc => masks r (acc ++ [bitsOf acc (o.after.toList.filterMap fun e => if Region.binds .any e then some e.on else none)])

def pairB (pairs : List (Nat × Nat)) (i j : Nat) (a b : ROp) : Bool := rApart a b && memApart (pairs.contains (i, j)) a.op b.op

/-- The operations ahead of the j-th, each against it. -/
def againstB (pairs : List (Nat × Nat)) (m j : Nat) (b : ROp) : Nat → List ROp → Bool
  | _, [] => true
  | i, a :: r => (Nat.testBit m i || pairB pairs i j a b) && againstB pairs m j b (i + 1) r

/-- 'seen' turned round and then the rest. -/
def drawB (pairs : List (Nat × Nat)) (all : List ROp) : Nat → List Nat → List ROp → Bool
  | _, [], [] => true
  | j, m :: ms, b :: bs => decide (m < 2 ^ j) && againstB pairs m j b 0 (all.take j) && drawB pairs all (j + 1) ms bs
  | _, _, _ => false

def okDraw (ops : List Oper) (rops : List ROp) (pairs : List (Nat × Nat)) : Bool := drawB pairs rops 0 (masks ops []) rops

def okCode (P : Program) (nt : Nat) : Code → ACode → Bool
  | .skip, .skip => true
  | .region _ ops false, .region rops => okROps P nt ops ops.toList rops
  | .region _ ops true, .dregion rops pairs => okROps P nt ops ops.toList rops && okDraw ops.toList rops pairs
  | .seq a b, .seq c d => okCode P nt a c && okCode P nt b d
  | .cond c a b, .cond c' a' b' => okOpd c c' && okCode P nt a a' && okCode P nt b b'
  | .block id b, .block id' b' => id == id' && okCode P nt b b'
  | .scope b, .scope b' => okCode P nt b b'
  | .label _, .skip => true
  | .loop b, .loop b' => okCode P nt b b'
  | .exit id, .exit id' => id == id'
  | .ret, .ret => true
  | _, _ => false

def okRes (P : Program) : List ResultVar → List ARes → Bool
  | [], [] => true
  | .tmp t :: r, .tmp u :: s => t == u && okRes P r s
  | .cell t ty :: r, .cell u agg size :: s => t == u && aggIs P ty agg && sizeIs P ty size && okRes P r s
  | _, _ => false

def okFun (P : Program) (fn : Func) (f : AFun) : Bool :=
  (match fn.body with
   | some c => okCode P fn.ntmps c f.body
   | none => false) && fn.ntmps == f.ntmps && okRes P fn.results.toList f.results && fn.name != "runtime.NumGoroutine"

end Go.Proofs.Qq

/-
  The relation between abstract values and the model's, through a map of row numbers to blocks.
-/
namespace Go.Proofs.Qq

structure Loc where
  b : Nat
  base : Nat
  cap : Nat

abbrev IM := Nat → Option Loc

def Loc.at (l : Loc) (o : Nat) : Addr := ⟨l.b, l.base + o, none⟩

inductive VRel (ι : IM) : AV → Value → Prop
  | int (k : IntKind) (n : Int) : VRel ι (.int k n) (.int k n)
  | bool (b : Bool) : VRel ι (.bool b) (.bool b)
  | str (s : List UInt8) : VRel ι (.str s) (.string ⟨s.toArray⟩)
  | nilptr : VRel ι (.ptr none) (.pointer none)
  | ptr (i o : Nat) (l : Loc) (h : ι i = some l) : VRel ι (.ptr (some (i, o))) (.pointer (some (l.at o)))
  | nilslice : VRel ι (.slice none 0 none) (.slice none 0 0)
  | empty (a : Addr) (c : Nat) : VRel ι (.slice none 0 (some 0)) (.slice (some a) 0 c)
  | slice (i o len : Nat) (l : Loc) (c : Nat) (h : ι i = some l) (hc : len ≤ c) (h0 : o = 0 → c = l.cap) : VRel ι (.slice (some (i, o)) len none) (.slice (some (l.at o)) len c)
  | slicec (i o len : Nat) (l : Loc) (c : Nat) (h : ι i = some l) (hc : len ≤ c) : VRel ι (.slice (some (i, o)) len (some c)) (.slice (some (l.at o)) len c)
  | func (f : Nat) (first capt : List AV) (vf vc : Array Value) (h1 : first.length = vf.size) (h2 : ∀ (i : Nat) (a : AV) (v : Value), first[i]? = some a → vf[i]? = some v → VRel ι a v)
      (h3 : capt.length = vc.size) (h4 : ∀ (i : Nat) (a : AV) (v : Value), capt[i]? = some a → vc[i]? = some v → VRel ι a v) : VRel ι (.func f first capt) (.func (.func f) vf vc)
  | nilFunc : VRel ι .nilFunc .nilFunc
  | nilIface : VRel ι .nilIface .nilIface
  | agg (cs : List AV) (vs : Array Value) (h1 : cs.length = vs.size) (h2 : ∀ (i : Nat) (a : AV) (v : Value), cs[i]? = some a → vs[i]? = some v → VRel ι a v)
      (h3 : ∀ (i : Nat) (v : Value), vs[i]? = some v → v.oneCell' = true) : VRel ι (.agg cs) (.agg vs)
  | tup (cs : List AV) (vs : Array Value) (h1 : cs.length = vs.size) (h2 : ∀ (i : Nat) (a : AV) (v : Value), cs[i]? = some a → vs[i]? = some v → VRel ι a v) : VRel ι (.tup cs) (.tuple vs)

/-- Lists. -/
def VRelL (ι : IM) (as : List AV) (vs : List Value) : Prop :=
  as.length = vs.length ∧ ∀ (i : Nat) (a : AV) (v : Value), as[i]? = some a → vs[i]? = some v → VRel ι a v

theorem VRel.mono {ι ι' : IM} (h : ∀ i l, ι i = some l → ι' i = some l) {a : AV} {v : Value} (hv : VRel ι a v) : VRel ι' a v := by
  induction hv with
  | int k n => exact .int k n
  | bool b => exact .bool b
  | str s => exact .str s
  | nilptr => exact .nilptr
  | ptr i o l hi => exact .ptr i o l (h _ _ hi)
  | nilslice => exact .nilslice
  | empty a c => exact .empty a c
  | slice i o len l c hi hc h0 => exact .slice i o len l c (h _ _ hi) hc h0
  | slicec i o len l c hi hc => exact .slicec i o len l c (h _ _ hi) hc
  | func f first capt vf vc h1 _ h3 _ ih1 ih2 => exact .func f first capt vf vc h1 ih1 h3 ih2
  | nilFunc => exact .nilFunc
  | nilIface => exact .nilIface
  | agg cs vs h1 _ h3 ih => exact .agg cs vs h1 ih h3
  | tup cs vs h1 _ ih => exact .tup cs vs h1 ih

theorem VRelL.mono {ι ι' : IM} (h : ∀ i l, ι i = some l → ι' i = some l) {as : List AV} {vs : List Value} (hv : VRelL ι as vs) : VRelL ι' as vs :=
  ⟨hv.1, fun i a v h1 h2 => (hv.2 i a v h1 h2).mono h⟩

theorem VRelL.nil (ι : IM) : VRelL ι [] [] := ⟨rfl, fun i a v h => by simp at h⟩
theorem VRelL.cons {ι : IM} {a : AV} {v : Value} {as : List AV} {vs : List Value} (h : VRel ι a v) (t : VRelL ι as vs) : VRelL ι (a :: as) (v :: vs) := by
  refine ⟨by simp [t.1], fun i x y h1 h2 => ?_⟩
  cases i with
  | zero => simp at h1 h2; subst h1; subst h2; exact h
  | succ i => exact t.2 i x y (by simpa using h1) (by simpa using h2)
theorem VRelL.head {ι : IM} {a : AV} {v : Value} {as : List AV} {vs : List Value} (h : VRelL ι (a :: as) (v :: vs)) : VRel ι a v := h.2 0 a v rfl rfl
theorem VRelL.tail {ι : IM} {a : AV} {v : Value} {as : List AV} {vs : List Value} (h : VRelL ι (a :: as) (v :: vs)) : VRelL ι as vs :=
  ⟨by simpa using h.1, fun i x y h1 h2 => h.2 (i + 1) x y (by simpa using h1) (by simpa using h2)⟩
theorem VRelL.append {ι : IM} {a b : List AV} {v u : List Value} (h : VRelL ι a v) (k : VRelL ι b u) : VRelL ι (a ++ b) (v ++ u) := by
  refine ⟨by simp [h.1, k.1], fun i x y h1 h2 => ?_⟩
  by_cases hi : i < a.length
  · rw [List.getElem?_append_left hi] at h1
    rw [List.getElem?_append_left (by rw [← h.1]; exact hi)] at h2
    exact h.2 i x y h1 h2
  · rw [List.getElem?_append_right (by omega)] at h1
    rw [List.getElem?_append_right (by rw [← h.1]; omega), ← h.1] at h2
    exact k.2 _ x y h1 h2
theorem VRelL.take {ι : IM} {a : List AV} {v : List Value} (h : VRelL ι a v) (n : Nat) : VRelL ι (a.take n) (v.take n) := by
  refine ⟨by simp [h.1], fun i x y h1 h2 => ?_⟩
  rw [List.getElem?_take] at h1 h2
  split at h1
  · rename_i hi; rw [if_pos hi] at h2; exact h.2 i x y h1 h2
  · cases h1
theorem VRelL.drop {ι : IM} {a : List AV} {v : List Value} (h : VRelL ι a v) (n : Nat) : VRelL ι (a.drop n) (v.drop n) := by
  refine ⟨by simp [h.1], fun i x y h1 h2 => ?_⟩
  rw [List.getElem?_drop] at h1 h2
  exact h.2 _ x y h1 h2
theorem VRelL.of_arr {ι : IM} {cs : List AV} {vs : Array Value} (h1 : cs.length = vs.size) (h2 : ∀ (i : Nat) (a : AV) (v : Value), cs[i]? = some a → vs[i]? = some v → VRel ι a v) : VRelL ι cs vs.toList :=
  ⟨by simpa using h1, fun i a v h h' => h2 i a v h (by simpa using h')⟩
theorem VRelL.agg {ι : IM} {cs : List AV} {vs : List Value} (h : VRelL ι cs vs) (h1 : ∀ v ∈ vs, v.oneCell' = true) : VRel ι (.agg cs) (.agg vs.toArray) :=
  .agg cs vs.toArray (by simpa using h.1) (fun i a v h2 h3 => h.2 i a v h2 (by simpa using h3)) (fun i v hv => h1 v (List.mem_of_getElem? (by simpa using hv)))
theorem VRelL.get {ι : IM} {as : List AV} {vs : List Value} (h : VRelL ι as vs) {i : Nat} {a : AV} (ha : as[i]? = some a) : ∃ v, vs[i]? = some v ∧ VRel ι a v := by
  have hlt : i < vs.length := by rw [← h.1]; exact (List.getElem?_eq_some_iff.1 ha).1
  exact ⟨vs[i], List.getElem?_eq_getElem hlt, h.2 i a _ ha (List.getElem?_eq_getElem hlt)⟩

/-- A value's cells. -/
theorem VRel.cells {ι : IM} {a : AV} {v : Value} (h : VRel ι a v) : VRelL ι a.cells v.cells.toList := by
  cases h with
  | agg cs vs h1 h2 h3 => exact VRelL.of_arr h1 h2
  | _ => exact VRelL.cons (by constructor <;> assumption) (VRelL.nil ι)

/-- Whether the cells are single ones: a value of one cell, or an aggregate. -/
theorem VRel.ones {ι : IM} {a : AV} {v : Value} (h : VRel ι a v) (ht : ∀ vs, v ≠ .tuple vs) : ∀ u ∈ v.cells.toList, u.oneCell' = true := by
  cases h with
  | agg cs vs h1 h2 h3 =>
    intro u hu
    obtain ⟨i, hi⟩ := List.getElem?_of_mem hu
    exact h3 i u (by simpa [Value.cells] using hi)
  | tup cs vs => exact absurd rfl (ht vs)
  | _ => intro u hu; simp [Value.cells] at hu; subst hu; rfl

/-! ### Constants -/
theorem okConst1_sound {v : Value} {a : AV} (h : okConst1 v a = true) (ι : IM) : VRel ι a v ∧ v.oneCell' = true := by
  unfold okConst1 at h
  split at h <;> simp at h
  · obtain ⟨rfl, rfl⟩ := h; exact ⟨.int _ _, rfl⟩
  · subst h; exact ⟨.bool _, rfl⟩
  · rename_i s l
    subst h
    refine ⟨?_, rfl⟩
    have : s = ⟨s.data.toList.toArray⟩ := by cases s; simp
    rw [this]
    simpa using VRel.str (ι := ι) s.data.toList
  · exact ⟨.nilptr, rfl⟩
  · exact ⟨.nilslice, rfl⟩
  · exact ⟨.nilFunc, rfl⟩
  · exact ⟨.nilIface, rfl⟩

theorem okCells_sound (ι : IM) : ∀ {vs : List Value} {as : List AV}, okCells vs as = true → VRelL ι as vs ∧ ∀ v ∈ vs, v.oneCell' = true
  | [], [], _ => ⟨VRelL.nil ι, fun v hv => by cases hv⟩
  | v :: vs, a :: as, h => by
    simp only [okCells, Bool.and_eq_true] at h
    have h1 := okConst1_sound h.1 ι
    have h2 := okCells_sound ι h.2
    refine ⟨VRelL.cons h1.1 h2.1, fun u hu => ?_⟩
    cases hu with
    | head => exact h1.2
    | tail _ hu => exact h2.2 u hu
  | [], _ :: _, h => by simp [okCells] at h
  | _ :: _, [], h => by simp [okCells] at h

theorem okConst_sound {v : Value} {a : AV} (h : okConst v a = true) (ι : IM) : VRel ι a v := by
  unfold okConst at h
  split at h
  · rename_i vs cs
    have := okCells_sound ι h
    simpa using VRelL.agg this.1 this.2
  · exact (okConst1_sound h ι).1

/-- The slots. -/
def EnvRel (ι : IM) (env : Env) (tmps : Array Value) : Prop := ∀ t, VRel ι (env t) (tmps.getD t Go.undef)

theorem VRel.undef (ι : IM) : VRel ι AV.undef Go.undef := .tup [] #[] rfl (fun i a v h => by simp at h)

theorem EnvRel.mono {ι ι' : IM} (h : ∀ i l, ι i = some l → ι' i = some l) {env : Env} {tmps : Array Value} (hv : EnvRel ι env tmps) : EnvRel ι' env tmps :=
  fun t => (hv t).mono h

theorem EnvRel.put {ι : IM} {env : Env} {a : Act} (h : EnvRel ι env a.tmps) {d : Option Nat} (hd : ∀ x, d = some x → x < a.tmps.size) {x : AV} {u : Value} (hv : VRel ι x u) :
    EnvRel ι (updO env d x) (a.put d u).tmps := by
  cases d with
  | none => exact h
  | some d =>
    intro t
    have hlt := hd d rfl
    simp only [updO, upd, Act.put]
    by_cases ht : t = d
    · subst ht
      simp only [if_true]
      have : (a.tmps.setIfInBounds t u).getD t Go.undef = u := by simp [Array.getD, hlt]
      rw [this]; exact hv
    · simp only [ht, if_false]
      have : (a.tmps.setIfInBounds d u).getD t Go.undef = a.tmps.getD t Go.undef := by
        simp only [Array.getD_eq_getD_getElem?]
        rw [Array.getElem?_setIfInBounds_ne (fun e => ht e.symm)]
      rw [this]; exact h t

theorem okOpd_sound {ι : IM} {env : Env} {a : Act} (h : EnvRel ι env a.tmps) {x : Operand} {y : Opd} (hk : okOpd x y = true) : VRel ι (ev env y) (a.eval x) := by
  unfold okOpd at hk
  split at hk
  · simp at hk; subst hk; exact h _
  · exact okConst_sound hk ι
  · simp at hk; subst hk
    exact .func _ [] [] #[] #[] rfl (fun i a v h => by simp at h) rfl (fun i a v h => by simp at h)
  · cases hk

theorem okOpds_sound {ι : IM} {env : Env} {a : Act} (h : EnvRel ι env a.tmps) : ∀ {xs : List Operand} {ys : List Opd}, okOpds xs ys = true → VRelL ι (ys.map (ev env)) (xs.map a.eval)
  | [], [], _ => VRelL.nil ι
  | x :: xs, y :: ys, hk => by
    simp only [okOpds, Bool.and_eq_true] at hk
    exact VRelL.cons (okOpd_sound h hk.1) (okOpds_sound h hk.2)
  | [], _ :: _, h => by simp [okOpds] at h
  | _ :: _, [], h => by simp [okOpds] at h

theorem okOpt_sound {ι : IM} {env : Env} {a : Act} (h : EnvRel ι env a.tmps) {x : Option Operand} {y : Option Opd} (hk : okOpt x y = true) :
    (x = none ∧ y = none) ∨ ∃ x' y', x = some x' ∧ y = some y' ∧ VRel ι (ev env y') (a.eval x') := by
  unfold okOpt at hk
  split at hk
  · exact .inl ⟨rfl, rfl⟩
  · exact .inr ⟨_, _, rfl, rfl, okOpd_sound h hk⟩
  · cases hk

/-! ### Types -/
theorem run_sizeOf' {P : Program} {t : TypeId} {n : Nat} (h : sizeIs P t n = true) (w : World) : (sizeOf t).run P w = .ok n w := by
  unfold sizeIs at h
  cases hi : P.info? t with
  | none => simp [hi] at h
  | some i => simp [hi] at h; subst h; simp [sizeOf, typeInfo, hi]

theorem run_und {P : Program} {t : TypeId} {d : TypeDesc} (h : P.underlying t = some d) (w : World) : (underlying t).run P w = .ok d w := run_underlying h w

theorem run_isAgg' {P : Program} {t : TypeId} {b : Bool} (h : aggIs P t b = true) (w : World) : (isAgg t).run P w = .ok b w := by
  unfold aggIs isAggB at h
  cases hu : P.underlying t with
  | none => simp [hu] at h
  | some d =>
    simp only [hu, Option.isSome_some, Bool.true_and, beq_iff_eq] at h
    unfold isAgg
    rw [Sem.run_bind, run_und hu]
    cases d <;> simp_all

theorem run_part {P : Program} {ι : IM} {t : TypeId} {agg : Bool} {off size : Nat} {cs : List AV} {vs : Array Value} {x : AV} (ha : aggIs P t agg = true) (hs : sizeIs P t size = true)
    (h : VRelL ι cs vs.toList) (h1 : ∀ v ∈ vs.toList, v.oneCell' = true) (hp : partA agg off size cs = some x) (w : World) :
    ∃ u, (part t vs off).run P w = .ok u w ∧ VRel ι x u ∧ ∀ r, u ≠ .tuple r := by
  unfold partA at hp
  cases agg with
  | true =>
    simp only [if_true] at hp
    split at hp
    · rename_i hle
      simp at hp; subst hp
      refine ⟨.agg (vs.extract off (off + size)), ?_, ?_, fun r => by simp⟩
      · simp [part, run_isAgg' ha, run_sizeOf' hs]
      · have h2 := (h.drop off).take size
        have e : vs.extract off (off + size) = ((vs.toList.drop off).take size).toArray := by
          apply Array.ext'
          simp [List.take_drop]
        rw [e]
        exact VRelL.agg h2 fun v hv => h1 v (List.mem_of_mem_drop (List.mem_of_mem_take hv))
    · cases hp
  | false =>
    simp only [Bool.false_eq_true, if_false] at hp
    obtain ⟨v, hv, hr⟩ := h.get hp
    have hv' : vs[off]? = some v := by simpa using hv
    refine ⟨v, by simp [part, run_isAgg' ha, hv'], hr, fun r e => ?_⟩
    have := h1 v (List.mem_of_getElem? hv)
    rw [e] at this
    cases this

end Go.Proofs.Qq

/-
  '==' of structs and arrays of whole numbers, bools and strings, cell by cell.
-/
namespace Go.Proofs.Qq

theorem eqCells_split : ∀ (k l : List CK) (a c b d : List AV) (r : Bool), a.length = k.length → c.length = k.length → eqCells (k ++ l) (a ++ b) (c ++ d) = some r →
    ∃ x y, eqCells k a c = some x ∧ eqCells l b d = some y ∧ r = (x && y)
  | [], l, [], [], b, d, r, _, _, h => ⟨true, r, rfl, by simpa using h, by simp⟩
  | t :: k, l, p :: a, q :: c, b, d, r, hl, hm, h => by
    simp only [List.cons_append, eqCells] at h
    split at h
    · rename_i x y hx hy
      obtain ⟨u, v, hu, hv, rfl⟩ := eqCells_split k l a c b d y (by simpa using hl) (by simpa using hm) hy
      refine ⟨x && u, v, ?_, hv, ?_⟩
      · simp [eqCells, hx, hu]
      · simp at h; rw [← h, Bool.and_assoc]
    · cases h
  | [], _, _ :: _, _, _, _, _, hl, _, _ => by simp at hl
  | [], _, [], _ :: _, _, _, _, _, hl, _ => by simp at hl
  | _ :: _, _, [], _, _, _, _, hl, _, _ => by simp at hl
  | _ :: _, _, _ :: _, [], _, _, _, _, hl, _ => by simp at hl

theorem eqCells_len : ∀ (k : List CK) (a c : List AV) (r : Bool), eqCells k a c = some r → a.length = k.length ∧ c.length = k.length
  | [], [], [], _, _ => ⟨rfl, rfl⟩
  | t :: k, p :: a, q :: c, r, h => by
    simp only [eqCells] at h
    split at h
    · rename_i x y hx hy
      have := eqCells_len k a c y hy
      simp [this.1, this.2]
    · cases h
  | [], _ :: _, _, _, h => by simp [eqCells] at h
  | [], [], _ :: _, _, h => by simp [eqCells] at h
  | _ :: _, [], _, _, h => by simp [eqCells] at h
  | _ :: _, _ :: _, [], _, h => by simp [eqCells] at h

def Ones (vs : List Value) : Prop := ∀ v ∈ vs, v.oneCell' = true

/-- What a type's comparison comes to, at the cells from 'off' on. -/
def EqAt (P : Program) (D : Nat) (t : TypeId) (ks : List CK) : Prop :=
  ∀ (ι : IM) (as bs : List AV) (vs us : Array Value) (off : Nat) (r : Bool) (w : World), VRelL ι as vs.toList → VRelL ι bs us.toList → Ones vs.toList → Ones us.toList →
    off + ks.length ≤ as.length → off + ks.length ≤ bs.length →
    eqCells ks ((as.drop off).take ks.length) ((bs.drop off).take ks.length) = some r →
    ∃ u v, (part t vs off).run P w = .ok u w ∧ (part t us off).run P w = .ok v w ∧ (Op.equalIn D t u v).run P w = .ok r w

theorem take1 {l : List AV} {o : Nat} {a : AV} (h : l[o]? = some a) : (l.drop o).take 1 = [a] := by
  obtain ⟨hlt, rfl⟩ := List.getElem?_eq_some_iff.1 h
  rw [List.drop_eq_getElem_cons hlt]; rfl

theorem eq_scalar {P : Program} {D : Nat} {t : TypeId} {k : CK} (hs : sizeIs P t 1 = true)
    (ht : match k with | .int => ∃ j, P.underlying t = some (.int j) | .bool => P.underlying t = some .bool | .str => P.underlying t = some .string) : EqAt P (D + 1) t [k] := by
  intro ι as bs vs us off r w h1 h2 o1 o2 l1 l2 he
  have hagg : aggIs P t false = true := by
    cases k <;> simp only at ht
    · obtain ⟨j, ht⟩ := ht; simp [aggIs, isAggB, ht]
    · simp [aggIs, isAggB, ht]
    · simp [aggIs, isAggB, ht]
  simp only [List.length_cons, List.length_nil] at l1 l2 he
  obtain ⟨a, ha⟩ : ∃ a, as[off]? = some a := ⟨as[off]'(by omega), List.getElem?_eq_getElem (by omega)⟩
  obtain ⟨b, hb⟩ : ∃ b, bs[off]? = some b := ⟨bs[off]'(by omega), List.getElem?_eq_getElem (by omega)⟩
  obtain ⟨u, hu1, hu2, _⟩ := run_part (P := P) (off := off) hagg hs h1 o1 (x := a) (by simp [partA, ha]) w
  obtain ⟨v, hv1, hv2, _⟩ := run_part (P := P) (off := off) hagg hs h2 o2 (x := b) (by simp [partA, hb]) w
  refine ⟨u, v, hu1, hv1, ?_⟩
  have ea := take1 ha
  have eb := take1 hb
  rw [show (0 + 1) = 1 from rfl, ea, eb] at he
  simp only [eqCells] at he
  cases hk : k.eqs a b with
  | none => simp [hk] at he
  | some x =>
    simp [hk] at he; subst he
    unfold CK.eqs at hk
    split at hk
    · rename_i k1 n j m
      split at hk
      · rename_i hkj; subst hkj; simp at hk; subst hk
        cases hu2; cases hv2
        obtain ⟨j, ht⟩ := ht
        exact run_equalIn_int w D t _ j _ _ ht
      · cases hk
    · simp at hk; subst hk; cases hu2; cases hv2; exact run_equalIn_bool' w D t _ _ ht
    · simp at hk; subst hk; cases hu2; cases hv2; rw [run_equalIn_string w D t _ _ ht]; simp
    · cases hk

theorem take_drop_add (l : List AV) (o n m : Nat) : (l.drop o).take (n + m) = (l.drop o).take n ++ (l.drop (o + n)).take m := by
  rw [List.take_add, List.drop_drop]

theorem eq_fields {P : Program} {D : Nat} {g : TypeId → Option (List CK)} (hg : ∀ t ks, g t = some ks → EqAt P D t ks) (ι : IM) (as bs : List AV) (vs us : Array Value) (w : World)
    (h1 : VRelL ι as vs.toList) (h2 : VRelL ι bs us.toList) (o1 : Ones vs.toList) (o2 : Ones us.toList) : ∀ (fs : List Field) (off : Nat) (ks : List CK) (r : Bool), tagsFs g fs off = some ks →
      off + ks.length ≤ as.length → off + ks.length ≤ bs.length →
      eqCells ks ((as.drop off).take ks.length) ((bs.drop off).take ks.length) = some r → (Op.eqFields D vs us fs).run P w = .ok r w
  | [], off, ks, r, ht, _, _, he => by
    simp [tagsFs] at ht; subst ht; simp [eqCells] at he; subst he; simp [Op.eqFields]
  | f :: fs, off, ks, r, ht, l1, l2, he => by
    simp only [tagsFs] at ht
    split at ht
    · rename_i a ha
      split at ht
      · rename_i hc
        split at ht
        · rename_i b hb
          simp at ht; subst ht
          simp only [Bool.and_eq_true, bne_iff_ne, ne_eq, beq_iff_eq] at hc
          simp only [List.length_append] at l1 l2 he
          rw [take_drop_add, take_drop_add] at he
          obtain ⟨x, y, hx, hy, rfl⟩ := eqCells_split a b _ _ _ _ r (by simp; omega) (by simp; omega) he
          obtain ⟨u, v, hu, hv, hq⟩ := hg f.type a ha ι as bs vs us off x w h1 h2 o1 o2 (by omega) (by omega) hx
          simp only [Op.eqFields, hc.1, ne_eq, not_false_eq_true, if_true, Sem.run_bind, hc.2, hu, hv, Result.andThen_ok, hq, Sem.run_ite]
          cases x with
          | false => simp
          | true =>
            simp only [Bool.not_true, Bool.false_eq_true, if_false, Bool.true_and]
            exact eq_fields hg ι as bs vs us w h1 h2 o1 o2 fs (off + a.length) b y hb (by omega) (by omega) hy
        · cases ht
      · cases ht
    · cases ht

theorem eq_array {P : Program} {D : Nat} {e : TypeId} {ks : List CK} (hg : EqAt P D e ks) (ι : IM) (as bs : List AV) (vs us : Array Value) (w : World)
    (h1 : VRelL ι as vs.toList) (h2 : VRelL ι bs us.toList) (o1 : Ones vs.toList) (o2 : Ones us.toList) (t : TypeId) (n : Nat) (ht : P.underlying t = some (.array n e)) (hn : sizeIs P e ks.length = true)
    (l1 : n * ks.length ≤ as.length) (l2 : n * ks.length ≤ bs.length) (r : Bool)
    (he : eqCells (repTags ks n) (as.take (n * ks.length)) (bs.take (n * ks.length)) = some r) : (Op.equalIn (D + 1) t (.agg vs) (.agg us)).run P w = .ok r w := by
  simp only [Op.equalIn, Sem.run_bind, run_underlying ht, Result.andThen_ok, run_sizeOf' hn]
  have key : ∀ (m k : Nat) (r : Bool), k + m = n →
      eqCells (repTags ks m) ((as.drop (k * ks.length)).take (m * ks.length)) ((bs.drop (k * ks.length)).take (m * ks.length)) = some r →
      (Sem.run P (forIn (m := Sem) (List.range' k m 1) ((none, ()) : Option Bool × PUnit) fun i _ => do
        let a ← part e vs (i * ks.length)
        let b ← part e us (i * ks.length)
        let q ← Op.equalIn D e a b
        if (!q) = true then pure (ForInStep.done (some false, ())) else pure (ForInStep.yield (none, ()))) w) = .ok (if r then (none, ()) else (some false, ())) w := by
    intro m
    induction m with
    | zero => intro k r _ h; simp [repTags, eqCells] at h; subst h; simp
    | succ m ih =>
      intro k r hk h
      have e1 : (m + 1) * ks.length = ks.length + m * ks.length := by rw [Nat.succ_mul]; omega
      have e2 : (k + 1) * ks.length = k * ks.length + ks.length := Nat.succ_mul _ _
      have e3 : n * ks.length = k * ks.length + (ks.length + m * ks.length) := by rw [← hk, Nat.add_mul, e1]
      rw [e1, take_drop_add, take_drop_add] at h
      simp only [repTags] at h
      obtain ⟨x, y, hx, hy, rfl⟩ := eqCells_split ks (repTags ks m) _ _ _ _ r (by simp; omega) (by simp; omega) h
      obtain ⟨u, v, hu, hv, hq⟩ := hg ι as bs vs us (k * ks.length) x w h1 h2 o1 o2 (by omega) (by omega) hx
      rw [← e2] at hy
      rw [List.range'_succ, List.forIn_cons]
      simp only [Sem.run_bind, hu, hv, hq, Result.andThen_ok, Sem.run_ite]
      cases x with
      | false => simp
      | true =>
        simp only [Bool.not_true, Bool.false_eq_true, if_false, Sem.run_pure, Result.andThen_ok, Bool.true_and]
        exact ih (k + 1) y (by omega) hy
  have := key n 0 r (by omega) (by simpa using he)
  simp only [Std.Legacy.Range.forIn_eq_forIn_range', Std.Legacy.Range.size] at *
  simp only [Nat.sub_zero, Nat.div_one, Nat.add_one_sub_one]
  rw [this]
  cases r <;> simp

theorem repTags_len (ks : List CK) : ∀ n, (repTags ks n).length = n * ks.length
  | 0 => by simp [repTags]
  | n + 1 => by simp [repTags, repTags_len ks n, Nat.succ_mul, Nat.add_comm]

theorem tagsT_size {P : Program} : ∀ (d : Nat) (t : TypeId) (ks : List CK), tagsT P d t = some ks → sizeIs P t ks.length = true
  | 0, _, _, h => by simp [tagsT] at h
  | d + 1, t, ks, h => by
    simp only [tagsT] at h
    split at h
    · split at h
      · rename_i hs; simp at h; subst h; exact hs
      · cases h
    · split at h
      · rename_i hs; simp at h; subst h; exact hs
      · cases h
    · split at h
      · rename_i hs; simp at h; subst h; exact hs
      · cases h
    · split at h
      · cases h
      · split at h
        · split at h
          · rename_i hs; simp at h; subst h; exact hs
          · cases h
        · cases h
    · split at h
      · split at h
        · rename_i hs; simp at h; subst h; rw [repTags_len]; exact hs
        · cases h
      · cases h
    · cases h

/-- A type's comparison, of parts. -/
theorem tagsT_sound {P : Program} : ∀ (d : Nat) (t : TypeId) (ks : List CK) (D : Nat), tagsT P d t = some ks → d ≤ D → EqAt P D t ks
  | 0, _, _, _, h, _ => by simp [tagsT] at h
  | d + 1, t, ks, D, h, hD => by
    obtain ⟨D, rfl⟩ : ∃ E, D = E + 1 := ⟨D - 1, by omega⟩
    have ih : ∀ t ks, tagsT P d t = some ks → EqAt P D t ks := fun t ks ht => tagsT_sound d t ks D ht (by omega)
    simp only [tagsT] at h
    split at h
    · rename_i hu; split at h
      · rename_i hs; simp at h; subst h; exact eq_scalar hs hu
      · cases h
    · rename_i k hu; split at h
      · rename_i hs; simp at h; subst h; exact eq_scalar hs ⟨k, hu⟩
      · cases h
    · rename_i hu; split at h
      · rename_i hs; simp at h; subst h; exact eq_scalar hs hu
      · cases h
    · rename_i fs hu
      split at h
      · cases h
      · rename_i hst
        split at h
        · rename_i l hl
          split at h
          · rename_i hs
            simp at h; subst h
            intro ι as bs vs us off r w h1 h2 o1 o2 l1 l2 he
            have hagg : aggIs P t true = true := by simp [aggIs, isAggB, hu]
            obtain ⟨u, hu1, hu2, _⟩ := run_part (P := P) (off := off) hagg hs h1 o1 (x := .agg ((as.drop off).take l.length)) (by simp [partA, l1]) w
            obtain ⟨v, hv1, hv2, _⟩ := run_part (P := P) (off := off) hagg hs h2 o2 (x := .agg ((bs.drop off).take l.length)) (by simp [partA, l2]) w
            refine ⟨u, v, hu1, hv1, ?_⟩
            cases hu2 with
            | agg _ vs' g1 g2 g3 =>
              cases hv2 with
              | agg _ us' f1 f2 f3 =>
                have hfo : P.fieldsOf t = fs := by simp [Program.fieldsOf, hu]
                rw [run_equalIn_struct w D t vs' us' (by rw [hfo]; exact hu) (by simpa using hst), hfo]
                refine eq_fields ih ι _ _ vs' us' w (VRelL.of_arr g1 g2) (VRelL.of_arr f1 f2) ?_ ?_ fs.toList 0 l r hl (by simp; omega) (by simp; omega) ?_
                · intro x hx; obtain ⟨i, hi⟩ := List.getElem?_of_mem hx; exact g3 i x (by simpa using hi)
                · intro x hx; obtain ⟨i, hi⟩ := List.getElem?_of_mem hx; exact f3 i x (by simpa using hi)
                · simpa [List.take_take] using he
          · cases h
        · cases h
    · rename_i n e hu
      split at h
      · rename_i a ha
        split at h
        · rename_i hs
          simp at h; subst h
          intro ι as bs vs us off r w h1 h2 o1 o2 l1 l2 he
          rw [repTags_len] at l1 l2
          have hagg : aggIs P t true = true := by simp [aggIs, isAggB, hu]
          obtain ⟨u, hu1, hu2, _⟩ := run_part (P := P) (off := off) hagg hs h1 o1 (x := .agg ((as.drop off).take (n * a.length))) (by simp [partA, l1]) w
          obtain ⟨v, hv1, hv2, _⟩ := run_part (P := P) (off := off) hagg hs h2 o2 (x := .agg ((bs.drop off).take (n * a.length))) (by simp [partA, l2]) w
          refine ⟨u, v, hu1, hv1, ?_⟩
          cases hu2 with
          | agg _ vs' g1 g2 g3 =>
            cases hv2 with
            | agg _ us' f1 f2 f3 =>
              refine eq_array (ih e a ha) ι _ _ vs' us' w (VRelL.of_arr g1 g2) (VRelL.of_arr f1 f2) ?_ ?_ t n hu (tagsT_size _ _ _ ha) (by simp; omega) (by simp; omega) r ?_
              · intro x hx; obtain ⟨i, hi⟩ := List.getElem?_of_mem hx; exact g3 i x (by simpa using hi)
              · intro x hx; obtain ⟨i, hi⟩ := List.getElem?_of_mem hx; exact f3 i x (by simpa using hi)
              · rw [repTags_len] at he; simpa [List.take_take] using he
        · cases h
      · cases h
    · cases h

end Go.Proofs.Qq

/-
  Operations that read no memory: the abstract machine's value stands for the model's.
-/
namespace Go.Proofs.Qq

variable {P : Program} {ι : IM} {env : Env} {a : Act}

theorem bin_int {op : BinOp} {k j : IntKind} {x y : Int} {v : AV} (t : TypeId) (h : binA op (.int k x) (.int j y) = some v) (w : World) :
    ∃ u, (binOp op t (.int k x) (.int j y)).run P w = .ok u w ∧ VRel ι v u := by
  have hs : ∀ (left : Bool), binShift left k x y = some v → ∃ u, (Op.shift (if left then .shl else .shr) k x j y).run P w = .ok u w ∧ VRel ι v u := by
    intro left hb
    unfold binShift at hb
    split at hb
    · cases hb
    · rename_i hy
      cases left with
      | true => simp at hb; subst hb; exact ⟨_, by simp [Op.shift, hy], .int _ _⟩
      | false => simp at hb; subst hb; exact ⟨_, by simp [Op.shift, hy], .int _ _⟩
  have hi : (op ≠ .shl) → (op ≠ .shr) → k = j → binInt op k x y = some v → ∃ u, (binOp op t (.int k x) (.int j y)).run P w = .ok u w ∧ VRel ι v u := by
    intro h1 h2 hkj hb
    subst hkj
    cases op <;> simp only [binInt] at hb <;> first
      | (exact absurd rfl h1)
      | (exact absurd rfl h2)
      | (split at hb
         · cases hb
         · rename_i hy
           simp only [Option.some.injEq] at hb
           subst hb
           exact ⟨_, by simp [binOp, Op.intDiv, hy], .int _ _⟩)
      | (simp only [Option.some.injEq] at hb
         subst hb
         first
           | (refine ⟨_, ?_, VRel.int _ _⟩; simp [binOp, Op.intArith, Op.intBits]; done)
           | (refine ⟨_, ?_, VRel.bool _⟩; simp [binOp, Op.intCmp]; done))
  cases op <;> simp only [binA] at h <;> first
    | exact hs true h
    | exact hs false h
    | (split at h
       · rename_i hkj; exact hi (by simp) (by simp) hkj h
       · cases h)

theorem bin_str {op : BinOp} {x y : List UInt8} {v : AV} (t : TypeId) (h : binStr op x y = some v) (w : World) :
    ∃ u, (binOp op t (.string ⟨x.toArray⟩) (.string ⟨y.toArray⟩)).run P w = .ok u w ∧ VRel ι v u := by
  cases op <;> simp only [binStr] at h <;> first
    | (cases h; done)
    | (split at h
       · rename_i hr
         simp only [Option.some.injEq] at h
         subst h
         refine ⟨.string ⟨(x ++ y).toArray⟩, ?_, .str _⟩
         have h1 : ¬ ((((ByteArray.mk x.toArray).size + (ByteArray.mk y.toArray).size : Nat) : Int) > IntKind.i64.max) := by
           have hm : IntKind.i64.max = 9223372036854775807 := by decide
           rw [hm]
           simp only [ByteArray.size_mk', List.size_toArray]
           unfold room at hr
           omega
         simp only [binOp, Op.stringOp, if_neg h1, Sem.run_pure, ByteArray.mk_append_mk]
       · cases h)
    | (simp only [Option.some.injEq] at h
       subst h
       exact ⟨_, by simp only [binOp, Op.stringOp, ByteArray.toList_mk, Sem.run_pure], .bool _⟩)

theorem bin_sound {op : BinOp} {x y v : AV} {X Y : Value} (t : TypeId) (hx : VRel ι x X) (hy : VRel ι y Y) (h : binA op x y = some v) (ox oy : Operand) (w : World) :
    ∃ u, (do eqGuard op t ox oy X Y; binOp op t X Y).run P w = .ok u w ∧ VRel ι v u := by
  unfold binA at h
  split at h
  · rename_i k n j m
    cases hx; cases hy
    obtain ⟨u, h1, h2⟩ := bin_int (P := P) (ι := ι) (op := op) (k := k) (j := j) (x := n) (y := m) (v := v) t (by unfold binA; exact h) w
    refine ⟨u, ?_, h2⟩
    rw [Sem.run_bind]
    have : (eqGuard op t ox oy (.int k n) (.int j m)).run P w = .ok () w := by unfold eqGuard; cases op <;> simp
    rw [this]; exact h1
  · rename_i s r
    cases hx; cases hy
    obtain ⟨u, h1, h2⟩ := bin_str (P := P) (ι := ι) (op := op) (x := s) (y := r) (v := v) t h w
    refine ⟨u, ?_, h2⟩
    rw [Sem.run_bind]
    have : (eqGuard op t ox oy (.string ⟨s.toArray⟩) (.string ⟨r.toArray⟩)).run P w = .ok () w := by unfold eqGuard; cases op <;> simp
    rw [this]; exact h1
  · cases h

theorem eq_ptr1 (d : Nat) {t e : TypeId} (hu : P.underlying t = some (.pointer e)) (b : Option Addr) (w : World) : (Op.equalIn (d + 1) t (.pointer none) (.pointer b)).run P w = .ok b.isNone w := by
  simp [Op.equalIn, run_underlying hu]
theorem eq_ptr2 (d : Nat) {t e : TypeId} (hu : P.underlying t = some (.pointer e)) (b : Addr) (w : World) : (Op.equalIn (d + 1) t (.pointer (some b)) (.pointer none)).run P w = .ok false w := by
  simp [Op.equalIn, run_underlying hu]
theorem eq_slc1 (d : Nat) {t e : TypeId} (hu : P.underlying t = some (.slice e)) (n c m q : Nat) (b : Option Addr) (w : World) : (Op.equalIn (d + 1) t (.slice none n c) (.slice b m q)).run P w = .ok b.isNone w := by
  simp [Op.equalIn, run_underlying hu]
theorem eq_slc2 (d : Nat) {t e : TypeId} (hu : P.underlying t = some (.slice e)) (n c m q : Nat) (b : Addr) (w : World) : (Op.equalIn (d + 1) t (.slice (some b) n c) (.slice none m q)).run P w = .ok false w := by
  simp [Op.equalIn, run_underlying hu]
theorem eq_fn1 (d : Nat) {t : TypeId} {p q : Array TypeId} {b : Bool} (hu : P.underlying t = some (.func p q b)) (w : World) : (Op.equalIn (d + 1) t .nilFunc .nilFunc).run P w = .ok true w := by
  simp [Op.equalIn, run_underlying hu]
theorem eq_fn2 (d : Nat) {t : TypeId} {p q : Array TypeId} {b : Bool} (hu : P.underlying t = some (.func p q b)) (f : Fn) (x y : Array Value) (w : World) : (Op.equalIn (d + 1) t .nilFunc (.func f x y)).run P w = .ok false w := by
  simp [Op.equalIn, run_underlying hu]
theorem eq_fn3 (d : Nat) {t : TypeId} {p q : Array TypeId} {b : Bool} (hu : P.underlying t = some (.func p q b)) (f : Fn) (x y : Array Value) (w : World) : (Op.equalIn (d + 1) t (.func f x y) .nilFunc).run P w = .ok false w := by
  simp [Op.equalIn, run_underlying hu]

def NoNum (X : Value) : Prop := (∀ (j : IntKind) (q : Int), X ≠ .int j q) ∧ (∀ s, X ≠ .string s)

theorem equal_sound {t : TypeId} {k : EqK} {x y : AV} {X Y : Value} {r : Bool} (hk : okEq P t k = true) (hx : VRel ι x X) (hy : VRel ι y Y) (h : eqA k x y = some r) (w : World) :
    (Op.equal t X Y).run P w = .ok r w ∧ NoNum X := by
  unfold Op.equal
  rw [show Op.maxDepth = 9999 + 1 from rfl]
  unfold eqA at h
  split at h
  · rename_i b c
    simp at h; subst h; cases hx; cases hy
    simp only [okEq] at hk
    split at hk
    · rename_i hu
      exact ⟨run_equalIn_bool' w _ t b c hu, fun j q => by simp, fun s => by simp⟩
    · cases hk
  · rename_i b
    simp only [Option.some.injEq] at h; subst h; cases hx
    simp only [okEq] at hk
    split at hk
    · rename_i e hu
      refine ⟨?_, fun j q => by simp, fun s => by simp⟩
      cases hy with
      | nilptr => exact eq_ptr1 _ hu _ w
      | ptr i o l hi => exact eq_ptr1 _ hu _ w
    · cases hk
  · simp only [Option.some.injEq] at h; subst h; cases hx; cases hy
    simp only [okEq] at hk
    split at hk
    · rename_i e hu
      exact ⟨eq_ptr2 _ hu _ w, fun j q => by simp, fun s => by simp⟩
    · cases hk
  · rename_i i n c m
    simp only [Option.some.injEq] at h; subst h
    simp only [okEq] at hk
    split at hk
    · rename_i e hu
      cases hy with
      | nilslice =>
        cases hx with
        | nilslice => exact ⟨eq_slc1 _ hu _ _ _ _ _ w, fun j q => by simp, fun s => by simp⟩
        | empty => exact ⟨eq_slc2 _ hu _ _ _ _ _ w, fun j q => by simp, fun s => by simp⟩
        | slice => exact ⟨eq_slc2 _ hu _ _ _ _ _ w, fun j q => by simp, fun s => by simp⟩
        | slicec => exact ⟨eq_slc2 _ hu _ _ _ _ _ w, fun j q => by simp, fun s => by simp⟩
    · cases hk
  · simp only [Option.some.injEq] at h; subst h; cases hx; cases hy
    simp only [okEq] at hk
    split at hk
    · rename_i p q b hu
      exact ⟨eq_fn1 _ hu w, fun j q => by simp, fun s => by simp⟩
    · cases hk
  · simp only [Option.some.injEq] at h; subst h; cases hx; cases hy
    simp only [okEq] at hk
    split at hk
    · rename_i p q b hu
      exact ⟨eq_fn2 _ hu _ _ _ w, fun j q => by simp, fun s => by simp⟩
    · cases hk
  · simp only [Option.some.injEq] at h; subst h; cases hx; cases hy
    simp only [okEq] at hk
    split at hk
    · rename_i p q b hu
      exact ⟨eq_fn3 _ hu _ _ _ w, fun j q => by simp, fun s => by simp⟩
    · cases hk
  · rename_i ks cs ds
    cases hx with
    | agg _ vs g1 g2 g3 =>
      cases hy with
      | agg _ us f1 f2 f3 =>
        refine ⟨?_, fun j q => by simp, fun s => by simp⟩
        simp only [okEq, Bool.and_eq_true, beq_iff_eq] at hk
        obtain ⟨⟨ht, ha⟩, hg⟩ := hk
        have hl := eqCells_len ks cs ds r h
        have hE := tagsT_sound (P := P) 20 t ks 10000 ht (by omega)
        have o1 : Ones vs.toList := fun x hx => by obtain ⟨i, hi⟩ := List.getElem?_of_mem hx; exact g3 i x (by simpa using hi)
        have o2 : Ones us.toList := fun x hx => by obtain ⟨i, hi⟩ := List.getElem?_of_mem hx; exact f3 i x (by simpa using hi)
        obtain ⟨u, v, hu, hv, he⟩ := hE ι cs ds vs us 0 r w (VRelL.of_arr g1 g2) (VRelL.of_arr f1 f2) o1 o2 (by omega) (by omega) (by
          rw [List.drop_zero, List.drop_zero, List.take_of_length_le (by omega), List.take_of_length_le (by omega)]; exact h)
        have hs := tagsT_size 20 t ks ht
        have hagg : aggIs P t true = true := by
          unfold aggIs
          cases hu : P.underlying t with
          | none => simp [hu, isAggB] at ha
          | some d => rw [hu] at ha; simp [ha]
        have whole : ∀ (vs : Array Value), vs.size = ks.length → (part t vs 0).run P w = .ok (.agg vs) w := by
          intro vs hvs
          simp [part, run_isAgg' hagg, run_sizeOf' hs, ← hvs]
        rw [whole vs (by omega)] at hu
        rw [whole us (by omega)] at hv
        cases hu; cases hv
        exact he
  · cases h

theorem eqop_sound {t : TypeId} {k : EqK} {x y : AV} {X Y : Value} {r neg : Bool} (hk : okEq P t k = true) (hx : VRel ι x X) (hy : VRel ι y Y) (h : eqA k x y = some r) (ox oy : Operand) (w : World) :
    (do eqGuard (if neg then .neq else .eql) t ox oy X Y; binOp (if neg then .neq else .eql) t X Y).run P w = .ok (.bool (if neg then !r else r)) w := by
  obtain ⟨he, hn1, hn2⟩ := equal_sound hk hx hy h w
  have hg : (eqGuard (if neg then .neq else .eql) t ox oy X Y).run P w = .ok () w := by
    unfold eqA at h
    split at h <;> (try (cases h; done)) <;> cases hx <;> cases hy <;> simp only [eqGuard] <;> (try (cases neg <;> simp; done))
    all_goals
      simp only [okEq, Bool.and_eq_true, Bool.not_eq_true'] at hk
      cases neg <;> simp [hk.2]
  rw [Sem.run_bind, hg, Result.andThen_ok]
  unfold eqA at h
  split at h <;> (try (cases h; done)) <;> cases hx <;> cases hy <;> cases neg <;> simp only [if_true, Bool.false_eq_true, if_false, binOp, Sem.run_bind, he, Result.andThen_ok, Sem.run_pure]

theorem at_add (l : Loc) (o n : Nat) : (l.at o).add n = l.at (o + n) := by
  unfold Addr.add Loc.at
  split
  · rename_i h; subst h; rfl
  · simp [Nat.add_assoc]

theorem bound_sound {x : AV} {X : Value} {n m : Nat} (hx : VRel ι x X) (h : boundA x n = some m) {y : Nat} (hy : n ≤ y) (code : BoundsCode) (w : World) :
    (Instr.sliceBound X y code).run P w = .ok m w ∧ m ≤ n := by
  unfold boundA at h
  split at h
  · rename_i k i
    split at h
    · rename_i hi
      simp at h; subst h
      cases hx
      refine ⟨?_, by omega⟩
      have : 0 ≤ i ∧ i ≤ (y : Int) := ⟨hi.1, by omega⟩
      simp [Instr.sliceBound, asIntOf, this]
    · cases h
  · cases h

def OptRel (ι : IM) (x : Option AV) (X : Option Value) : Prop := (x = none ∧ X = none) ∨ ∃ y Y, x = some y ∧ X = some Y ∧ VRel ι y Y

theorem lo_sound {x : Option AV} {X : Option Value} {n m : Nat} (hx : OptRel ι x X) (h : loA x n = some m) (code : BoundsCode) (w : World) :
    ((X = none ∧ m = 0) ∨ ∃ Y, X = some Y ∧ (Instr.sliceBound Y n code).run P w = .ok m w) ∧ m ≤ n := by
  rcases hx with ⟨rfl, rfl⟩ | ⟨y, Y, rfl, rfl, hr⟩
  · simp [loA] at h; subst h; exact ⟨.inl ⟨rfl, rfl⟩, Nat.zero_le _⟩
  · have := bound_sound (P := P) hr h (Nat.le_refl _) code w
    exact ⟨.inr ⟨Y, rfl, this.1⟩, this.2⟩

/-- The bounds of a slice expression. -/
theorem bounds_sound {lo hi mx : Option AV} {LO HI MX : Option Value} (h1 : OptRel ι lo LO) (h2 : OptRel ι hi HI) (h3 : OptRel ι mx MX) (isS : Bool) (L C n : Nat) (hL : L ≤ n) (hC : n ≤ C) (w : World) :
    (mx = none → ∀ h l, hiA hi (if hi.isSome = true then n else L) = some h → loA lo h = some l → (Instr.sliceBounds isS L C LO HI MX).run P w = .ok (l, h, C) w ∧ l ≤ h ∧ h ≤ n) ∧
    (∀ m hv, mx = some m → hi = some hv → ∀ q h l, boundA m n = some q → boundA hv q = some h → loA lo h = some l → (Instr.sliceBounds isS L C LO HI MX).run P w = .ok (l, h, q) w ∧ l ≤ h ∧ h ≤ q ∧ q ≤ n) := by
  refine ⟨?_, ?_⟩
  · rintro rfl h l hh hl
    rcases h3 with ⟨_, rfl⟩ | ⟨y, Y, hy, _⟩
    · obtain ⟨r1, r2⟩ := lo_sound (P := P) h1 hl .sliceB w
      rcases h2 with ⟨rfl, rfl⟩ | ⟨y, Y, rfl, rfl, hr⟩
      · simp [hiA] at hh; subst hh
        refine ⟨?_, r2, hL⟩
        simp only [Instr.sliceBounds, Sem.run_bind, Sem.run_pure, Result.andThen_ok, Option.isSome_none, Bool.false_eq_true, if_false]
        rcases r1 with ⟨rfl, rfl⟩ | ⟨Y, rfl, r1⟩
        · rfl
        · simp only [Sem.run_bind, r1, Result.andThen_ok, Sem.run_pure]
      · obtain ⟨q1, q2⟩ := bound_sound (P := P) hr hh hC (if isS then .sliceAcap else .sliceAlen) w
        refine ⟨?_, r2, q2⟩
        simp only [Instr.sliceBounds, Sem.run_bind, Sem.run_pure, Result.andThen_ok, Option.isSome_none, Bool.false_eq_true, if_false]
        rcases r1 with ⟨rfl, rfl⟩ | ⟨Y', rfl, r1⟩
        · simp only [Sem.run_bind, q1, Result.andThen_ok, Sem.run_pure]
        · simp only [Sem.run_bind, q1, r1, Result.andThen_ok, Sem.run_pure]
    · cases hy
  · rintro m hv rfl rfl q h l hq hh hl
    rcases h3 with ⟨hm, _⟩ | ⟨y, Y, hm, rfl, hr⟩
    · cases hm
    · cases hm
      rcases h2 with ⟨hx, _⟩ | ⟨z, Z, hz, rfl, hr2⟩
      · cases hx
      · cases hz
        obtain ⟨a1, a2⟩ := bound_sound (P := P) hr hq hC (if isS then .slice3Acap else .slice3Alen) w
        obtain ⟨b1, b2⟩ := bound_sound (P := P) hr2 hh (Nat.le_refl _) .slice3B w
        obtain ⟨r1, r2⟩ := lo_sound (P := P) h1 hl .slice3C w
        refine ⟨?_, r2, b2, a2⟩
        simp only [Instr.sliceBounds, Sem.run_bind, Option.isSome_some, if_true]
        rcases r1 with ⟨rfl, rfl⟩ | ⟨Y', rfl, r1⟩
        · simp only [Sem.run_bind, a1, b1, Result.andThen_ok, Sem.run_pure]
        · simp only [Sem.run_bind, a1, b1, r1, Result.andThen_ok, Sem.run_pure]

/-- 's[lo:hi:mx]' of a slice. -/
theorem sliceOf_sound {size : Nat} {ao : Option (Nat × Nat)} {len : Nat} {cap : Option Nat} {lo hi mx : Option AV} {v : AV} {LO HI MX : Option Value} {A : Option Addr} {L C : Nat} (isS : Bool)
    (h : sliceOf size ao len cap lo hi mx = some v) (hS : VRel ι (.slice ao len cap) (.slice A L C)) (h1 : OptRel ι lo LO) (h2 : OptRel ι hi HI) (h3 : OptRel ι mx MX) (w : World) :
    ∃ l q r, (Instr.sliceBounds isS L C LO HI MX).run P w = .ok (l, q, r) w ∧ VRel ι v (.slice (if r = l then A else A.map (·.add (l * size))) (q - l) (r - l)) := by
  have key : ∀ (n : Nat), cap.getD len = n → len = L ∧ L ≤ n ∧ n ≤ C ∧ (∀ c, cap = some c → (ao ≠ none → c = C)) := by
    intro n hn
    cases hS with
    | nilslice => simp at hn; subst hn; simp
    | empty a c => simp at hn; subst hn; simp
    | slice i o _ l _ hi' hc h0 => simp at hn; subst hn; exact ⟨rfl, Nat.le_refl _, hc, fun c hc => by cases hc⟩
    | slicec i o _ l _ hi' hc => simp at hn; subst hn; exact ⟨rfl, hc, Nat.le_refl _, fun c hc _ => by cases hc; rfl⟩
  obtain ⟨n, hn⟩ : ∃ n, cap.getD len = n := ⟨_, rfl⟩
  obtain ⟨rfl, k1, k2, k3⟩ := key n hn
  have hb := bounds_sound (P := P) h1 h2 h3 isS len C n k1 k2 w
  unfold sliceOf at h
  split at h
  · rw [hn] at h
    split at h
    · cases h
    · rename_i q hq
      split at h
      · cases h
      · rename_i l hl
        obtain ⟨r1, r2, r3⟩ := hb.1 rfl q l hq hl
        refine ⟨l, q, C, r1, ?_⟩
        cases hS with
        | nilslice =>
          have : n = 0 := by simpa using hn.symm
          have hl0 : l = 0 := by omega
          have hq0 : q = 0 := by omega
          subst hl0; subst hq0
          simp at h; subst h; simpa using VRel.nilslice
        | empty a c =>
          have : n = 0 := by simpa using hn.symm
          have hl0 : l = 0 := by omega
          have hq0 : q = 0 := by omega
          subst hl0; subst hq0
          simp at h; subst h
          split
          · exact .empty _ _
          · exact .empty _ _
        | slice i o _ L0 _ hi' hc h0 =>
          simp only at h
          have hqn : q ≤ len := by have : n = len := by simpa using hn.symm
                                   omega
          split at h
          · rename_i hl0; subst hl0
            simp at h; subst h
            simp only [Nat.zero_mul, Nat.sub_zero, Option.map_some]
            have : (if C = 0 then some (L0.at o) else some ((L0.at o).add 0)) = some (L0.at o) := by split <;> rfl
            rw [this]
            exact .slice i o q L0 C hi' (by omega) h0
          · rename_i hl0
            split at h
            · rename_i hlt
              simp [addO] at h; subst h
              rw [if_neg (by omega), Option.map_some, at_add]
              refine .slice i _ _ L0 _ hi' (by omega) (fun e => ?_)
              exfalso
              have := Nat.mul_pos (show 0 < l by omega) hlt.2
              omega
            · split at h
              · rename_i hlq
                simp at h; subst h; subst hlq
                rw [Nat.sub_self]
                split
                · exact .empty _ _
                · exact .empty _ _
              · cases h
        | slicec i o _ L0 _ hi' hc =>
          simp only at h
          split at h
          · rename_i hlt
            simp [addO] at h; subst h
            rw [if_neg (by omega), Option.map_some, at_add]
            exact .slicec i _ _ L0 _ hi' (by omega)
          · split at h
            · rename_i hlq
              simp at h; subst h; subst hlq
              rw [Nat.sub_self]
              split
              · exact .empty _ _
              · exact .empty _ _
            · cases h
  · rename_i m
    split at h
    · cases h
    · rename_i hv
      rw [hn] at h
      split at h
      · cases h
      · rename_i q hq
        split at h
        · cases h
        · rename_i p hp
          split at h
          · cases h
          · rename_i l hl
            obtain ⟨r1, r2, r3, r4⟩ := hb.2 m hv rfl rfl q p l hq hp hl
            refine ⟨l, p, q, r1, ?_⟩
            split at h
            · rename_i hlt
              simp at h; subst h
              rw [if_neg (by omega)]
              cases hS with
              | nilslice => have : n = 0 := by simpa using hn.symm
                            omega
              | empty a c => have : n = 0 := by simpa using hn.symm
                             omega
              | slice i o _ L0 _ hi' hc h0 => rw [Option.map_some, at_add]; exact .slicec i _ _ L0 _ hi' (by omega)
              | slicec i o _ L0 _ hi' hc => rw [Option.map_some, at_add]; exact .slicec i _ _ L0 _ hi' (by omega)
            · cases h

end Go.Proofs.Qq

/-
  Every operation that reads no memory, by the check.
-/
namespace Go.Proofs.Qq

variable {P : Program} {ι : IM} {env : Env} {a : Act}

theorem okOpt_rel (hE : EnvRel ι env a.tmps) {x : Option Operand} {y : Option Opd} (h : okOpt x y = true) : OptRel ι (y.map (ev env)) (x.map a.eval) := by
  rcases okOpt_sound hE h with ⟨rfl, rfl⟩ | ⟨x', y', rfl, rfl, hr⟩
  · exact .inl ⟨rfl, rfl⟩
  · exact .inr ⟨_, _, rfl, rfl, hr⟩

theorem VRel.ones' {x : AV} {v : Value} (h : VRel ι x v) (hn : x.noTup = true) : Ones v.cells.toList :=
  h.ones fun ts e => by subst e; cases h; cases hn

theorem foldl_set (off : Nat) : ∀ (l : List Value) (j : Nat) (ws : Array Value), off + j + l.length ≤ ws.size →
    ((l.zipIdx j).foldl (fun (cs : Array Value) (p : Value × Nat) => cs.setIfInBounds (off + p.2) p.1) ws).toList = ws.toList.take (off + j) ++ l ++ ws.toList.drop (off + j + l.length)
  | [], j, ws, _ => by simp
  | u :: l, j, ws, h => by
    simp only [List.length_cons] at h
    simp only [List.zipIdx_cons, List.foldl_cons]
    rw [foldl_set off l (j + 1) _ (by simp; omega)]
    simp only [Array.toList_setIfInBounds]
    have hlt : off + j < ws.toList.length := by simp; omega
    rw [List.set_eq_take_append_cons_drop, if_pos hlt]
    have h1 : (ws.toList.take (off + j)).length = off + j := by simp; omega
    have e1 : List.take (off + (j + 1)) (ws.toList.take (off + j) ++ u :: ws.toList.drop (off + j + 1)) = ws.toList.take (off + j) ++ [u] := by
      rw [List.take_append, h1, List.take_of_length_le (by omega)]
      rw [show off + (j + 1) - (off + j) = 1 by omega]; simp
    have e2 : List.drop (off + (j + 1) + l.length) (ws.toList.take (off + j) ++ u :: ws.toList.drop (off + j + 1)) = ws.toList.drop (off + j + (l.length + 1)) := by
      rw [List.drop_append, h1, List.drop_of_length_le (by omega), List.nil_append]
      rw [show off + (j + 1) + l.length - (off + j) = l.length + 1 by omega, List.drop_succ_cons, List.drop_drop]
      congr 1; omega
    rw [e1, e2]; simp

theorem foldl_cells (off : Nat) (l ws : Array Value) (h : off + l.size ≤ ws.size) :
    (l.zipIdx.foldl (fun (cs : Array Value) (p : Value × Nat) => cs.setIfInBounds (off + p.2) p.1) ws).toList = ws.toList.take off ++ l.toList ++ ws.toList.drop (off + l.size) := by
  rw [← Array.foldl_toList, Array.toList_zipIdx]
  have := foldl_set off l.toList 0 ws (by simpa using h)
  simpa using this

/-- 'build': parts laid into cells. -/
theorem fill_sound (hE : EnvRel ι env a.tmps) (pl : Nat → Option (Nat × Nat)) : ∀ (ps : List (Nat × Operand)) (qs : List (Nat × Nat × Opd)) (cells : List AV) (vs : Array Value) (out : List AV),
    okParts ps qs pl = true → VRelL ι cells vs.toList → Ones vs.toList → fillA cells (evParts env qs) = some out →
    ∃ us, Instr.fill pl vs (ps.map fun p => (p.1, a.eval p.2)) = some us ∧ VRelL ι out us.toList ∧ Ones us.toList ∧ us.size = vs.size
  | [], [], cells, vs, out, _, h1, h2, h => by
    simp [evParts, fillA] at h; subst h
    exact ⟨vs, rfl, h1, h2, rfl⟩
  | (i, x) :: ps, (off, size, y) :: qs, cells, vs, out, hk, h1, h2, h => by
    simp only [okParts, Bool.and_eq_true, beq_iff_eq] at hk
    obtain ⟨⟨hpl, hx⟩, hr⟩ := hk
    simp only [evParts, List.map_cons, fillA] at h
    split at h
    · rename_i hc
      have hle := hc.2.1
      have hsz := hc.1
      have hv := okOpd_sound hE hx
      have hcl := hv.cells
      have hlen : (a.eval x).cells.size = size := by have := hcl.1; simp at this; omega
      have hvs : cells.length = vs.size := by simpa using h1.1
      have ho := hv.ones' hc.2.2
      have hf := foldl_cells off (a.eval x).cells vs (by omega)
      have hfill : Instr.fill pl vs (((i, x) :: ps).map fun p => (p.1, a.eval p.2)) =
          Instr.fill pl ((a.eval x).cells.zipIdx.foldl (fun (cs : Array Value) (p : Value × Nat) => cs.setIfInBounds (off + p.2) p.1) vs) (ps.map fun p => (p.1, a.eval p.2)) := by
        simp only [List.map_cons, Instr.fill, hpl]
        have hno : ¬ (((a.eval x).cells.size ≠ size) || decide (off + (a.eval x).cells.size > vs.size)) = true := by simp; omega
        simp only [hlen] at hno ⊢
        simp [show ¬ (off + size > vs.size) by omega]
      rw [hfill]
      generalize (a.eval x).cells.zipIdx.foldl (fun (cs : Array Value) (p : Value × Nat) => cs.setIfInBounds (off + p.2) p.1) vs = ws at hf ⊢
      rw [hlen] at hf
      have hrel : VRelL ι (cells.take off ++ (ev env y).cells ++ cells.drop (off + size)) ws.toList := by
        rw [hf]; exact ((h1.take off).append hcl).append (h1.drop (off + size))
      have hones : Ones ws.toList := by
        rw [hf]
        intro u hu
        simp only [List.mem_append] at hu
        rcases hu with (hu | hu) | hu
        · exact h2 u (List.mem_of_mem_take hu)
        · exact ho u hu
        · exact h2 u (List.mem_of_mem_drop hu)
      obtain ⟨us, r1, r2, r3, r4⟩ := fill_sound hE pl ps qs _ ws out hr hrel hones h
      refine ⟨us, r1, r2, r3, r4.trans ?_⟩
      have := hrel.1
      have hcl1 := hcl.1
      simp at this hcl1
      omega
    · cases h
  | [], _ :: _, _, _, _, hk, _, _, _ => by simp [okParts] at hk
  | _ :: _, [], _, _, _, hk, _, _, _ => by simp [okParts] at hk

theorem zero_sound {t : TypeId} {z : List AV} (h : zeroIs P t z = true) (ι : IM) (w : World) :
    ∃ v, (zeroValue t).run P w = .ok v w ∧ VRelL ι z v.cells.toList ∧ Ones v.cells.toList ∧ sizeIs P t v.cells.size = true := by
  unfold zeroIs at h
  cases hi : P.info? t with
  | none => simp [hi] at h
  | some i =>
    simp only [hi] at h
    cases hz : i.zero with
    | none => simp [hz] at h
    | some v =>
      simp only [hz, Bool.and_eq_true, beq_iff_eq] at h
      have := okCells_sound ι h.1
      exact ⟨v, by simp [zeroValue, typeInfo, hi, hz], this.1, this.2, by simp [sizeIs, hi, h.2]⟩

theorem mm_sound (mx : Bool) {x y z : AV} {X Y : Value} (hx : VRel ι x X) (hy : VRel ι y Y) (h : minmax2 mx x y = some z) (w : World) :
    ∃ u, ((if mx then Builtin.max2 else Builtin.min2) X Y).run P w = .ok u w ∧ VRel ι z u := by
  unfold minmax2 at h
  split at h
  · rename_i k n j m
    cases hx; cases hy
    simp only [Option.some.injEq] at h; subst h
    cases mx
    · exact ⟨_, rfl, .int _ _⟩
    · exact ⟨_, rfl, .int _ _⟩
  · cases h

theorem foldMM_sound (mx : Bool) (w : World) : ∀ {ys : List AV} {YS : List Value} {x z : AV} {X : Value}, VRel ι x X → VRelL ι ys YS → foldMM mx x ys = some z →
    ∃ u, (YS.foldlM (if mx then Builtin.max2 else Builtin.min2) X).run P w = .ok u w ∧ VRel ι z u
  | [], [], x, z, X, hx, _, h => by simp [foldMM] at h; subst h; exact ⟨X, by simp, hx⟩
  | y :: ys, Y :: YS, x, z, X, hx, hl, h => by
    simp only [foldMM] at h
    split at h
    · rename_i q hq
      obtain ⟨u, h1, h2⟩ := mm_sound (P := P) mx hx hl.head hq w
      obtain ⟨v, h3, h4⟩ := foldMM_sound mx w h2 hl.tail h
      exact ⟨v, by rw [List.foldlM_cons, Sem.run_bind, h1, Result.andThen_ok, h3], h4⟩
    · cases h
  | [], _ :: _, _, _, _, _, hl, _ => by have := hl.1; simp at this
  | _ :: _, [], _, _, _, _, hl, _ => by have := hl.1; simp at this

theorem run_underlyingOk {t : TypeId} {d : TypeDesc} (h : P.underlying t = some d) (w : World) : (underlying t).run P w = .ok d w := run_underlying h w

theorem partAt_sound {t : TypeId} {agg : Bool} {off size : Nat} {cs : List AV} {x : AV} {vs : Array Value} (ha : aggIs P t agg = true) (hs : sizeIs P t size = true)
    (h : VRel ι (.agg cs) (.agg vs)) (hp : partA agg off size cs = some x) (w : World) : ∃ u, (part t vs off).run P w = .ok u w ∧ VRel ι x u := by
  cases h with
  | agg _ _ g1 g2 g3 =>
    have o1 : Ones vs.toList := fun x hx => by obtain ⟨i, hi⟩ := List.getElem?_of_mem hx; exact g3 i x (by simpa using hi)
    obtain ⟨u, h1, h2, _⟩ := run_part (P := P) ha hs (VRelL.of_arr g1 g2) o1 hp w
    exact ⟨u, h1, h2⟩

/-- A value that comes of a computation on values. -/
def Gives (P : Program) (ι : IM) (v : AV) (s : Sem Next) (w : World) : Prop := ∃ u, s.run P w = .ok (.value u) w ∧ VRel ι v u

theorem gives_of {v : AV} {s : Sem Value} {w : World} (h : ∃ u, s.run P w = .ok u w ∧ VRel ι v u) : Gives P ι v (do pure (.value (← s))) w := by
  obtain ⟨u, h1, h2⟩ := h
  exact ⟨u, by rw [Sem.run_bind, h1]; rfl, h2⟩

theorem g_nilck {x v : AV} {X : Value} (hx : VRel ι x X) (hs : nilckA x = some v) (o : Oper) (w : World)
    (ρ : Operand → Value) (xo : Operand) (ho : o.op = .nilCheck xo) (hr : ρ xo = X) : Gives P ι v (execOp ρ o) w := by
  unfold nilckA at hs
  split at hs
  · simp only [Option.some.injEq] at hs; subst hs
    cases hx with
    | ptr i p l h => exact ⟨_, by simp only [execOp, ho, hr]; rfl, .ptr _ _ _ h⟩
  · simp only [Option.some.injEq] at hs; subst hs
    cases hx with
    | func f x y vf vc h1 h2 h3 h4 => exact ⟨_, by simp only [execOp, ho, hr]; rfl, .func _ _ _ _ _ h1 h2 h3 h4⟩
  · cases hs

theorem g_un {op : UnOp} {x v : AV} {X : Value} (hx : VRel ι x X) (hs : unA op x = some v) (w : World) : ∃ u, (Op.unary op X).run P w = .ok u w ∧ VRel ι v u := by
  unfold unA at hs
  split at hs
  · simp only [Option.some.injEq] at hs; subst hs; cases hx; exact ⟨_, rfl, .int _ _⟩
  · rename_i k n
    cases hx
    simp only [binInt, Option.some.injEq] at hs; subst hs
    exact ⟨_, rfl, .int _ _⟩
  · simp at hs; subst hs; cases hx; exact ⟨_, rfl, .bool _⟩
  · cases hs

theorem g_fieldAddr {st : TypeId} {fs : Array Field} {fd : Field} {i f off : Nat} {l : Loc} {o : Nat} (hu : P.underlying st = some (.struct fs)) (hf : fs[f]? = some fd) (ho : fd.offset = off)
    (hsz : (match P.info? fd.type with | some i => i.size != 0 | none => false) = true) (hi : ι i = some l) (w : World) :
    ∃ u, (Instr.fieldAt st (.pointer (some (l.at o))) f).run P w = .ok u w ∧ VRel ι (.ptr (some (i, o + off))) u := by
  cases hinfo : P.info? fd.type with
  | none => simp [hinfo] at hsz
  | some inf =>
    simp only [hinfo, bne_iff_ne, ne_eq] at hsz
    refine ⟨.pointer (some (l.at (o + off))), ?_, .ptr _ _ _ hi⟩
    simp [Instr.fieldAt, run_underlying hu, hf, Instr.sureAddr, fieldPlace, sizeOf, typeInfo, hinfo, hsz, ho, at_add]

theorem g_indexAddr {t e : TypeId} {size len : Nat} {cap : Option Nat} {i o : Nat} {n : Int} {k : IntKind} {X : Value} (hu : P.underlying t = some (.slice e)) (hsz : sizeIs P e size = true)
    (hx : VRel ι (.slice (some (i, o)) len cap) X) (hn : 0 ≤ n ∧ n < len) (w : World) :
    ∃ u, (Instr.indexAt t X (.int k n)).run P w = .ok u w ∧ VRel ι (.ptr (some (i, o + n.toNat * size))) u := by
  cases hx with
  | slice _ _ _ l c h hc h0 =>
    refine ⟨.pointer (some (l.at (o + n.toNat * size))), ?_, .ptr _ _ _ h⟩
    simp [Instr.indexAt, asIntOf, run_underlying hu, run_sizeOf' hsz, hn, at_add]
  | slicec _ _ _ l c h hc =>
    refine ⟨.pointer (some (l.at (o + n.toNat * size))), ?_, .ptr _ _ _ h⟩
    simp [Instr.indexAt, asIntOf, run_underlying hu, run_sizeOf' hsz, hn, at_add]

theorem g_indexAddrA {t e : TypeId} {size len : Nat} {i o : Nat} {n : Int} {k : IntKind} {X : Value} (hu : P.underlying t = some (.array len e)) (hsz : sizeIs P e size = true)
    (hx : VRel ι (.ptr (some (i, o))) X) (hn : 0 ≤ n ∧ n < len) (w : World) :
    ∃ u, (Instr.indexAt t X (.int k n)).run P w = .ok u w ∧ VRel ι (.ptr (some (i, o + n.toNat * size))) u := by
  cases hx with
  | ptr _ _ l h =>
    refine ⟨.pointer (some (l.at (o + n.toNat * size))), ?_, .ptr _ _ _ h⟩
    simp [Instr.indexAt, Instr.sureAddr, asIntOf, run_underlying hu, run_sizeOf' hsz, hn, at_add]

theorem g_indexA {t e : TypeId} {agg : Bool} {size len : Nat} {cs : List AV} {n : Int} {k : IntKind} {X : Value} {v : AV} (hu : P.underlying t = some (.array len e)) (ha : aggIs P e agg = true) (hsz : sizeIs P e size = true)
    (hx : VRel ι (.agg cs) X) (hn : 0 ≤ n ∧ n < len) (hp : partA agg (n.toNat * size) size cs = some v) (w : World) :
    ∃ u, (Instr.index t X (.int k n)).run P w = .ok u w ∧ VRel ι v u := by
  cases hx with
  | agg _ vs g1 g2 g3 =>
    obtain ⟨u, h1, h2⟩ := partAt_sound (P := P) ha hsz (.agg cs vs g1 g2 g3) hp w
    exact ⟨u, by simp [Instr.index, asIntOf, run_underlying hu, run_sizeOf' hsz, hn, h1], h2⟩

theorem g_indexS {t : TypeId} {s : List UInt8} {n : Int} {k : IntKind} {b : UInt8} (hu : P.underlying t = some .string) (h0 : 0 ≤ n) (hb : s[n.toNat]? = some b) (w : World) :
    (Instr.index t (.string ⟨s.toArray⟩) (.int k n)).run P w = .ok (.int .u8 b.toNat) w := by
  obtain ⟨hlt, rfl⟩ := List.getElem?_eq_some_iff.1 hb
  have e : (ByteArray.mk s.toArray)[n.toNat]? = some s[n.toNat] := by
    rw [ByteArray.getElem?_lt' _ _ (by show n.toNat < s.toArray.size; simpa using hlt)]
    rfl
  simp [Instr.index, asIntOf, run_underlying hu, h0, e]

theorem g_sliceS {t : TypeId} {s : List UInt8} {lo hi : Option AV} {LO HI : Option Value} {h l : Nat} (hu : P.underlying t = some .string) (h1 : OptRel ι lo LO) (h2 : OptRel ι hi HI)
    (hh : hiA hi s.length = some h) (hl : loA lo h = some l) (w : World) :
    (Instr.sliceAt t (.string ⟨s.toArray⟩) LO HI none).run P w = .ok (.string ⟨((s.take h).drop l).toArray⟩) w := by
  have hb := (bounds_sound (P := P) h1 h2 (.inl ⟨rfl, rfl⟩ : OptRel ι none none) false s.length s.length s.length (Nat.le_refl _) (Nat.le_refl _) w).1 rfl h l (by simpa using hh) hl
  have e : (ByteArray.mk s.toArray).size = s.length := by simp [ByteArray.size]
  simp only [Instr.sliceAt, Instr.slice, Sem.run_bind, run_underlying hu, Result.andThen_ok, Option.isSome_none, Bool.false_eq_true, if_false, e, hb.1, Sem.run_pure, ByteArray.extract_mk]
  rw [List.drop_take]

theorem g_sliceA {t e : TypeId} {size len : Nat} {i o : Nat} {lo hi mx : Option AV} {LO HI MX : Option Value} {X : Value} {v : AV}
    (hu : P.underlying t = some (.array len e) ∨ ∃ u, P.underlying t = some (.pointer u) ∧ P.underlying u = some (.array len e)) (hsz : sizeIs P e size = true)
    (hx : VRel ι (.ptr (some (i, o))) X) (h1 : OptRel ι lo LO) (h2 : OptRel ι hi HI) (h3 : OptRel ι mx MX)
    (hs : sliceOf size (some (i, o)) len (some len) lo hi mx = some v) (w : World) :
    ∃ u, (Instr.sliceAt t X LO HI MX).run P w = .ok u w ∧ VRel ι v u := by
  cases hx with
  | ptr _ _ l hl =>
    obtain ⟨p, q, r, r1, r2⟩ := sliceOf_sound (P := P) false hs (.slicec i o len l len hl (Nat.le_refl _)) h1 h2 h3 w
    refine ⟨_, ?_, r2⟩
    rcases hu with hu | ⟨u, hu, hu2⟩
    · simp only [Instr.sliceAt, Sem.run_bind, run_underlying hu, Result.andThen_ok, Instr.sureAddr, Sem.run_pure, r1, run_sizeOf' hsz]
      split <;> simp
    · simp only [Instr.sliceAt, Instr.slice, Sem.run_bind, run_underlying hu, run_underlying hu2, Result.andThen_ok, asAddr, Sem.run_pure, r1, run_sizeOf' hsz]
      split <;> simp

theorem g_slice {t e : TypeId} {size : Nat} {ao : Option (Nat × Nat)} {len : Nat} {cap : Option Nat} {lo hi mx : Option AV} {LO HI MX : Option Value} {X : Value} {v : AV}
    (hu : P.underlying t = some (.slice e)) (hsz : sizeIs P e size = true)
    (hx : VRel ι (.slice ao len cap) X) (h1 : OptRel ι lo LO) (h2 : OptRel ι hi HI) (h3 : OptRel ι mx MX)
    (hs : sliceOf size ao len cap lo hi mx = some v) (w : World) :
    ∃ u, (Instr.sliceAt t X LO HI MX).run P w = .ok u w ∧ VRel ι v u := by
  obtain ⟨A, L, C, rfl⟩ : ∃ A L C, X = .slice A L C := by cases hx <;> exact ⟨_, _, _, rfl⟩
  obtain ⟨p, q, r, r1, r2⟩ := sliceOf_sound (P := P) true hs hx h1 h2 h3 w
  refine ⟨_, ?_, r2⟩
  simp only [Instr.sliceAt, Instr.slice, Sem.run_bind, run_underlying hu, Result.andThen_ok, Sem.run_pure, r1, run_sizeOf' hsz]

theorem g_lenS {t e : TypeId} {A : Option Addr} {n c : Nat} (hu : P.underlying t = some (.slice e)) (ty : TypeId) (w : World) : (Builtin.len_ #[t] ty #[.slice A n c]).run P w = .ok (goInt n) w := by
  simp [Builtin.len_, run_underlying hu]
theorem g_lenStr {t : TypeId} (s : List UInt8) (hu : P.underlying t = some .string) (ty : TypeId) (w : World) : (Builtin.len_ #[t] ty #[.string ⟨s.toArray⟩]).run P w = .ok (goInt s.length) w := by
  simp [Builtin.len_, run_underlying hu, ByteArray.size_mk']
theorem g_lenC {t : TypeId} {n : Nat} (X : Value)
    (hu : (match P.underlying t with
     | some (.array m _) => m == n
     | some (.pointer u) => (match P.underlying u with | some (.array m _) => m == n | _ => false)
     | _ => false) = true) (ty : TypeId) (w : World) : (Builtin.len_ #[t] ty #[X]).run P w = .ok (goInt n) w := by
  split at hu
  · rename_i m e h
    simp at hu; subst hu
    cases X <;> simp [Builtin.len_, run_underlying h]
  · rename_i u h
    split at hu
    · rename_i m e h2
      simp at hu; subst hu
      cases X <;> simp [Builtin.len_, run_underlying h, run_underlying h2]
    · cases hu
  · cases hu

theorem run_builtin {b : Builtin} {ts : Array TypeId} {ty : TypeId} {cs : Array Bool} {args : Array Value} {v : AV} {w : World} {s : Sem Value} (h : ∃ u, s.run P w = .ok u w ∧ VRel ι v u)
    (hb : builtin b ts ty cs args = (do pure (.value (← s)))) : Gives P ι v (builtin b ts ty cs args) w := by
  rw [hb]; exact gives_of h

theorem call_builtin (ρ : Operand → Value) (o : Oper) (c : Call) (b : Builtin) (ho : o.op = .call c) (hc : c.callee = .builtin b) (w : World) :
    (execOp ρ o).run P w = (builtin b c.argTypes o.type (c.args.map fun | .const _ => true | _ => false) (c.args.map ρ)).run P w := by
  simp only [execOp, ho, resolve, hc, Sem.run_bind, Sem.run_pure, Result.andThen_ok, invoke]
  rfl

theorem run_places (fs : Array Field) (h : allSized P fs = true) (w : World) :
    (fs.mapM (m := Sem) fun f => do pure (f.offset, ← sizeOf f.type)).run P w = .ok (fs.map fun f => (f.offset, P.cellsOf f.type)) w := by
  rw [Array.mapM_eq_mapM_toList, Sem.run_map]
  have key : ∀ (l : List Field), (∀ f ∈ l, (P.info? f.type).isSome = true) → (l.mapM (m := Sem) fun f => do pure (f.offset, ← sizeOf f.type)).run P w = .ok (l.map fun f => (f.offset, P.cellsOf f.type)) w := by
    intro l
    induction l with
    | nil => intro _; simp
    | cons f l ih =>
      intro hl
      obtain ⟨i, hi⟩ := Option.isSome_iff_exists.1 (hl f (by simp))
      have hsz : sizeIs P f.type (P.cellsOf f.type) = true := by simp [sizeIs, Program.cellsOf, hi]
      rw [List.mapM_cons]
      simp only [Sem.run_bind, run_sizeOf' hsz, Result.andThen_ok, Sem.run_pure, ih (fun f hf => hl f (by simp [hf])), List.map_cons]
  rw [key fs.toList (fun f hf => by simp only [allSized, List.all_eq_true] at h; exact h f hf)]
  simp only [Result.andThen_ok]
  congr 1
  apply Array.ext'
  simp

theorem builtin_pure (hE : EnvRel ι env a.tmps) {b : Builtin} {args : Array Operand} {ts : Array TypeId} {r : AOp} (hok : okBuiltin P b args.toList ts.toList r = true) (hp : r.isPure = true) {v : AV}
    (hs : pureStep env r = some v) (ty : TypeId) (cs : Array Bool) (w : World) : Gives P ι v (builtin b ts ty cs (args.map a.eval)) w := by
  obtain ⟨args⟩ := args
  obtain ⟨ts⟩ := ts
  unfold okBuiltin at hok
  split at hok <;> simp only [AOp.isPure, Bool.false_eq_true] at hp
  · rename_i x t y h1 h2
    simp only at h1 h2
    subst h1; subst h2
    simp only [Bool.and_eq_true] at hok
    obtain ⟨hk, hx⟩ := hok
    have hx := okOpd_sound hE hx
    simp only [pureStep] at hs
    split at hs
    · rename_i ao n cap hj
      simp only [Option.some.injEq] at hs; subst hs
      rw [hj] at hx
      split at hk
      · rename_i e hu
        refine run_builtin (s := Builtin.len_ #[t] ty #[a.eval x]) ?_ (by simp [builtin])
        obtain ⟨A, C, hX⟩ : ∃ A C, a.eval x = .slice A n C := by generalize a.eval x = X at hx; cases hx <;> exact ⟨_, _, rfl⟩
        rw [hX]
        exact ⟨_, g_lenS hu ty w, .int _ _⟩
      · cases hk
    · cases hs
  · rename_i x t y h1 h2
    simp only at h1 h2
    subst h1; subst h2
    simp only [Bool.and_eq_true] at hok
    obtain ⟨hk, hx⟩ := hok
    have hx := okOpd_sound hE hx
    simp only [pureStep] at hs
    split at hs
    · rename_i s hj
      simp only [Option.some.injEq] at hs; subst hs
      rw [hj] at hx
      split at hk
      · rename_i hu
        refine run_builtin (s := Builtin.len_ #[t] ty #[a.eval x]) ?_ (by simp [builtin])
        generalize a.eval x = X at hx
        cases hx
        exact ⟨_, g_lenStr s hu ty w, .int _ _⟩
      · cases hk
    · cases hs
  · rename_i x t n h1 h2
    simp only at h1 h2
    subst h1; subst h2
    simp only [pureStep, Option.some.injEq] at hs; subst hs
    refine run_builtin (s := Builtin.len_ #[t] ty #[a.eval x]) ?_ (by simp [builtin])
    exact ⟨_, g_lenC _ hok ty w, .int _ _⟩
  · rename_i x xs y ys h1
    simp only at h1
    subst h1
    simp only [Bool.and_eq_true] at hok
    simp only [pureStep] at hs
    have := foldMM_sound (P := P) true w (okOpd_sound hE hok.1) (okOpds_sound hE hok.2) hs
    refine run_builtin (s := Builtin.max_ ⟨ts⟩ ty ((x :: xs).toArray.map a.eval)) ?_ (by simp [builtin])
    simpa [Builtin.max_] using this
  · rename_i x xs y ys h1
    simp only at h1
    subst h1
    simp only [Bool.and_eq_true] at hok
    simp only [pureStep] at hs
    have := foldMM_sound (P := P) false w (okOpd_sound hE hok.1) (okOpds_sound hE hok.2) hs
    refine run_builtin (s := Builtin.min_ ⟨ts⟩ ty ((x :: xs).toArray.map a.eval)) ?_ (by simp [builtin])
    simpa [Builtin.min_] using this
  · cases hok

set_option maxHeartbeats 4000000 in
/-- Every operation that reads no memory. -/
theorem pure_sound (hE : EnvRel ι env a.tmps) (o : Oper) {r : AOp} (hok : okOp P o.op r = true) (hp : r.isPure = true) {v : AV} (hs : pureStep env r = some v) (w : World) :
    Gives P ι v (execOp a.eval o) w := by
  unfold okOp at hok
  split at hok <;> rename_i hop <;> simp only [AOp.isPure, Bool.false_eq_true] at hp <;> simp only [pureStep] at hs
  · simp only [Option.some.injEq] at hs; subst hs
    exact ⟨_, by simp only [execOp, hop]; rfl, okOpd_sound hE hok⟩
  · simp only [Option.some.injEq] at hs; subst hs
    exact ⟨_, by simp only [execOp, hop]; rfl, okOpd_sound hE hok⟩
  · exact g_nilck (okOpd_sound hE hok) hs o w _ _ hop rfl
  · rename_i c x y c' x' y'
    simp only [Bool.and_eq_true] at hok
    have hc := okOpd_sound hE hok.1.1
    have hx := okOpd_sound hE hok.1.2
    have hy := okOpd_sound hE hok.2
    split at hs
    · rename_i t ht
      rw [ht] at hc
      generalize hC : a.eval c = C at hc
      cases hc
      simp only [Option.some.injEq] at hs; subst hs
      cases t
      · exact ⟨_, by simp only [execOp, hop, hC, asBool, Sem.run_bind, Sem.run_pure, Result.andThen_ok]; rfl, hy⟩
      · exact ⟨_, by simp only [execOp, hop, hC, asBool, Sem.run_bind, Sem.run_pure, Result.andThen_ok]; rfl, hx⟩
    · cases hs
  · simp only [Bool.and_eq_true, decide_eq_true_eq] at hok
    obtain ⟨⟨rfl, hx⟩, hy⟩ := hok
    simp only [execOp, hop]
    exact gives_of (bin_sound (P := P) _ (okOpd_sound hE hx) (okOpd_sound hE hy) hs _ _ w)
  · simp only [Bool.and_eq_true, decide_eq_true_eq] at hok
    obtain ⟨⟨⟨rfl, hk⟩, hx⟩, hy⟩ := hok
    split at hs
    · rename_i b hb
      simp only [Option.some.injEq] at hs; subst hs
      simp only [execOp, hop]
      exact gives_of ⟨_, eqop_sound (P := P) hk (okOpd_sound hE hx) (okOpd_sound hE hy) hb _ _ w, .bool _⟩
    · cases hs
  · simp only [Bool.and_eq_true, decide_eq_true_eq] at hok
    obtain ⟨rfl, hx⟩ := hok
    simp only [execOp, hop]
    exact gives_of (g_un (P := P) (okOpd_sound hE hx) hs w)
  · simp only [Bool.and_eq_true] at hok
    obtain ⟨⟨hs1, hk⟩, hx⟩ := hok
    have hx := okOpd_sound hE hx
    split at hs
    · rename_i j n hj
      rw [hj] at hx
      simp only [Option.some.injEq] at hs; subst hs
      simp only [execOp, hop]
      refine gives_of ⟨_, ?_, .int _ _⟩
      generalize a.eval _ = X at hx
      cases hx
      obtain ⟨d, hd⟩ := Option.isSome_iff_exists.1 hs1
      split at hk
      · rename_i q hq
        simp only [decide_eq_true_eq] at hk; subst hk
        simp only [convert, Sem.run_bind, run_underlying hd, run_underlying hq, Result.andThen_ok, Conv.intToInt]
        rfl
      · cases hk
    · cases hs
  · simp only [Bool.and_eq_true] at hok
    obtain ⟨hk, hx⟩ := hok
    have hx := okOpd_sound hE hx
    split at hs
    · rename_i s hj
      rw [hj] at hx
      simp only [Option.some.injEq] at hs; subst hs
      simp only [execOp, hop]
      refine gives_of ⟨_, ?_, .str _⟩
      generalize a.eval _ = X at hx
      cases hx
      split at hk
      · rename_i h1 h2
        simp only [convert, Sem.run_bind, run_underlying h1, run_underlying h2, Result.andThen_ok]
        rfl
      · cases hk
    · cases hs
  · simp only [Bool.and_eq_true, beq_iff_eq] at hok
    obtain ⟨⟨rfl, hx⟩, hy⟩ := hok
    simp only [Option.some.injEq] at hs; subst hs
    have h1 := okOpds_sound hE hx
    have h2 := okOpds_sound hE hy
    simp only [execOp, hop]
    refine gives_of ⟨_, rfl, ?_⟩
    refine .func _ _ _ _ _ (by have := h1.1; simpa using this) (fun i x y h h' => h1.2 i x y h (by simpa using h')) (by have := h2.1; simpa using this) (fun i x y h h' => h2.2 i x y h (by simpa using h'))
  · simp only [Bool.and_eq_true] at hok
    obtain ⟨hk, hx⟩ := hok
    have hx := okOpd_sound hE hx
    split at hs
    · rename_i i p hj
      rw [hj] at hx
      simp only [Option.some.injEq] at hs; subst hs
      simp only [execOp, hop]
      generalize a.eval _ = X at hx
      cases hx with
      | ptr _ _ l hl =>
        split at hk
        · rename_i fs hu
          split at hk
          · rename_i fd hf
            simp only [Bool.and_eq_true, beq_iff_eq] at hk
            exact gives_of (g_fieldAddr hu hf hk.1 hk.2 hl w)
          · cases hk
        · cases hk
    · cases hs
  · simp only [Bool.and_eq_true] at hok
    obtain ⟨hk, hx⟩ := hok
    have hx := okOpd_sound hE hx
    split at hs
    · rename_i cs hj
      rw [hj] at hx
      simp only [execOp, hop]
      generalize a.eval _ = X at hx
      split at hk
      · rename_i fs hu
        split at hk
        · rename_i fd hf
          simp only [Bool.and_eq_true, beq_iff_eq] at hk
          obtain ⟨⟨rfl, ha⟩, hsz⟩ := hk
          cases hx with
          | agg _ vs g1 g2 g3 =>
            obtain ⟨u, r1, r2⟩ := partAt_sound (P := P) ha hsz (.agg cs vs g1 g2 g3) hs w
            exact gives_of ⟨u, by simp only [Instr.field, Sem.run_bind, run_underlying hu, Result.andThen_ok, hf, asAgg, Sem.run_pure, r1], r2⟩
        · cases hk
      · cases hk
    · cases hs
  · simp only [Bool.and_eq_true] at hok
    obtain ⟨⟨hk, hx⟩, hi⟩ := hok
    have hx := okOpd_sound hE hx
    have hi := okOpd_sound hE hi
    split at hs
    · rename_i i p len cap k n hj hn
      rw [hj] at hx; rw [hn] at hi
      simp only [execOp, hop]
      split at hs
      · rename_i hb
        simp only [Option.some.injEq] at hs; subst hs
        split at hk
        · rename_i e hu
          generalize a.eval _ = I at hi
          cases hi
          exact gives_of (g_indexAddr hu hk hx hb w)
        · cases hk
      · cases hs
    · cases hs
  · simp only [Bool.and_eq_true] at hok
    obtain ⟨⟨hk, hx⟩, hi⟩ := hok
    have hx := okOpd_sound hE hx
    have hi := okOpd_sound hE hi
    split at hs
    · rename_i i p k n hj hn
      rw [hj] at hx; rw [hn] at hi
      simp only [execOp, hop]
      split at hs
      · rename_i hb
        simp only [Option.some.injEq] at hs; subst hs
        split at hk
        · rename_i m e hu
          simp only [Bool.and_eq_true, beq_iff_eq] at hk
          obtain ⟨rfl, hsz⟩ := hk
          generalize a.eval _ = I at hi
          cases hi
          exact gives_of (g_indexAddrA hu hsz hx hb w)
        · cases hk
      · cases hs
    · cases hs
  · simp only [Bool.and_eq_true] at hok
    obtain ⟨⟨hk, hx⟩, hi⟩ := hok
    have hx := okOpd_sound hE hx
    have hi := okOpd_sound hE hi
    split at hs
    · rename_i cs k n hj hn
      rw [hj] at hx; rw [hn] at hi
      simp only [execOp, hop]
      split at hs
      · rename_i hb
        split at hk
        · rename_i m e hu
          simp only [Bool.and_eq_true, beq_iff_eq] at hk
          obtain ⟨⟨rfl, ha⟩, hsz⟩ := hk
          generalize a.eval _ = I at hi
          cases hi
          exact gives_of (g_indexA hu ha hsz hx hb hs w)
        · cases hk
      · cases hs
    · cases hs
  · simp only [Bool.and_eq_true] at hok
    obtain ⟨⟨hk, hx⟩, hi⟩ := hok
    have hx := okOpd_sound hE hx
    have hi := okOpd_sound hE hi
    split at hs
    · rename_i s k n hj hn
      rw [hj] at hx; rw [hn] at hi
      simp only [execOp, hop]
      split at hs
      · rename_i h0
        split at hs
        · rename_i b hb
          simp only [Option.some.injEq] at hs; subst hs
          split at hk
          · rename_i hu
            generalize a.eval _ = X at hx
            generalize a.eval _ = I at hi
            cases hx; cases hi
            exact gives_of ⟨_, g_indexS hu h0 hb w, .int _ _⟩
          · cases hk
        · cases hs
      · cases hs
    · cases hs
  · simp only [Bool.and_eq_true, beq_iff_eq] at hok
    obtain ⟨hx, rfl⟩ := hok
    have hx := okOpd_sound hE hx
    split at hs
    · rename_i vs hj
      rw [hj] at hx
      simp only [execOp, hop]
      generalize a.eval _ = X at hx
      cases hx with
      | tup _ us g1 g2 =>
        have hlt := (List.getElem?_eq_some_iff.1 hs).1
        rw [g1] at hlt
        exact gives_of ⟨_, by simp only [Instr.extract, Array.getElem?_eq_getElem hlt]; rfl, g2 _ _ _ hs (Array.getElem?_eq_getElem hlt)⟩
    · cases hs
  · simp only [Bool.and_eq_true] at hok
    obtain ⟨⟨⟨⟨hk, hx⟩, h1⟩, h2⟩, h3⟩ := hok
    have hx := okOpd_sound hE hx
    split at hs
    · rename_i ao len cap hj
      rw [hj] at hx
      simp only [execOp, hop]
      split at hk
      · rename_i e hu
        exact gives_of (g_slice hu hk hx (okOpt_rel hE h1) (okOpt_rel hE h2) (okOpt_rel hE h3) hs w)
      · cases hk
    · cases hs
  · simp only [Bool.and_eq_true] at hok
    obtain ⟨⟨⟨hk, hx⟩, h1⟩, h2⟩ := hok
    have hx := okOpd_sound hE hx
    split at hs
    · rename_i s hj
      rw [hj] at hx
      split at hs
      · cases hs
      · rename_i h hh
        split at hs
        · cases hs
        · rename_i l hl
          simp only [Option.some.injEq] at hs; subst hs
          simp only [execOp, hop]
          split at hk
          · rename_i hu
            generalize a.eval _ = X at hx
            cases hx
            exact gives_of ⟨_, g_sliceS hu (okOpt_rel hE h1) (okOpt_rel hE h2) hh hl w, .str _⟩
          · cases hk
    · cases hs
  · simp only [Bool.and_eq_true] at hok
    obtain ⟨⟨⟨⟨hk, hx⟩, h1⟩, h2⟩, h3⟩ := hok
    have hx := okOpd_sound hE hx
    split at hs
    · rename_i p hj
      rw [hj] at hx
      simp only [execOp, hop]
      split at hk
      · rename_i n e hu
        simp only [Bool.and_eq_true, beq_iff_eq] at hk
        obtain ⟨rfl, hsz⟩ := hk
        exact gives_of (g_sliceA (.inl hu) hsz hx (okOpt_rel hE h1) (okOpt_rel hE h2) (okOpt_rel hE h3) hs w)
      · rename_i u hu
        split at hk
        · rename_i n e hu2
          simp only [Bool.and_eq_true, beq_iff_eq] at hk
          obtain ⟨rfl, hsz⟩ := hk
          exact gives_of (g_sliceA (.inr ⟨u, hu, hu2⟩) hsz hx (okOpt_rel hE h1) (okOpt_rel hE h2) (okOpt_rel hE h3) hs w)
        · cases hk
      · cases hk
    · cases hs
  · simp only [Bool.and_eq_true] at hok
    obtain ⟨hk, hx⟩ := hok
    have hx := okOpd_sound hE hx
    split at hs
    · rename_i p len cap hj
      rw [hj] at hx
      split at hs
      · rename_i hle
        simp only [Option.some.injEq] at hs; subst hs
        simp only [execOp, hop]
        split at hk
        · rename_i m e hu
          simp only [beq_iff_eq] at hk; subst hk
          generalize a.eval _ = X at hx
          cases hx with
          | slice i o _ l c h hc h0 => exact gives_of ⟨_, by simp only [Instr.arrayAt, Sem.run_bind, run_underlying hu, Result.andThen_ok, Sem.run_ite]; rw [if_neg (by omega)]; rfl, .ptr _ _ _ h⟩
          | slicec i o _ l c h hc => exact gives_of ⟨_, by simp only [Instr.arrayAt, Sem.run_bind, run_underlying hu, Result.andThen_ok, Sem.run_ite]; rw [if_neg (by omega)]; rfl, .ptr _ _ _ h⟩
        · cases hk
      · cases hs
    · cases hs
  · rename_i t parts zero parts'
    simp only [Bool.and_eq_true] at hok
    obtain ⟨hz, hk⟩ := hok
    split at hs
    · rename_i cs hf
      simp only [Option.some.injEq] at hs; subst hs
      obtain ⟨z, z1, z2, z3, z4⟩ := zero_sound (P := P) hz ι w
      simp only [execOp, hop]
      refine gives_of ?_
      split at hk
      · rename_i fs hu
        simp only [Bool.and_eq_true] at hk
        obtain ⟨hall, hparts⟩ := hk
        obtain ⟨us, f1, f2, f3, _⟩ := fill_sound hE (fieldOff P fs) _ _ _ z.cells _ hparts z2 z3 hf
        refine ⟨.agg us, ?_, by simpa using VRelL.agg f2 f3⟩
        have e1 : (parts.map fun (i, x) => (i, a.eval x)).toList = parts.toList.map fun p => (p.1, a.eval p.2) := by simp
        have e2 : (fun i => (fs.map fun f => (f.offset, P.cellsOf f.type))[i]?) = fieldOff P fs := by funext i; simp [fieldOff]
        simp only [Instr.build, Sem.run_bind, z1, run_underlying hu, Result.andThen_ok, run_places fs hall w, e1, e2, f1, Sem.run_pure]
      · rename_i n e hu
        simp only [Bool.and_eq_true] at hk
        obtain ⟨hinf, hparts⟩ := hk
        obtain ⟨us, f1, f2, f3, _⟩ := fill_sound hE _ _ _ _ z.cells _ hparts z2 z3 hf
        refine ⟨.agg us, ?_, by simpa using VRelL.agg f2 f3⟩
        have e1 : (parts.map fun (i, x) => (i, a.eval x)).toList = parts.toList.map fun p => (p.1, a.eval p.2) := by simp
        obtain ⟨inf, hinf⟩ := Option.isSome_iff_exists.1 hinf
        have hsz : sizeIs P e (P.cellsOf e) = true := by simp [sizeIs, Program.cellsOf, hinf]
        simp only [Instr.build, Sem.run_bind, z1, run_underlying hu, Result.andThen_ok, run_sizeOf' hsz, e1, f1, Sem.run_pure]
      · cases hk
    · cases hs
  · rename_i r c
    split at hok
    · rename_i b hc
      unfold Gives
      rw [call_builtin a.eval o c b hop hc w]
      refine builtin_pure hE hok hp ?_ _ _ w
      simp only [pureStep]
      exact hs
    · simp only [Bool.false_eq_true] at hp
    · cases hok
  · cases hok

end Go.Proofs.Qq

/-
  Rows of the abstract heap and blocks of the model's: what an operation on memory does to both.
-/
namespace Go.Proofs.Qq

theorem Ones.nil : Ones [] := by intro v hv; simp at hv

/-- A row stands in its block. -/
def RowOk (ι : IM) (r : Row) (l : Loc) (w : World) : Prop :=
  ∃ cs e fr, w.heap[l.b]? = some (.cells cs e fr) ∧ l.base + r.cells.length ≤ cs.size ∧ VRelL ι r.cells ((cs.toList.drop l.base).take r.cells.length) ∧
    Ones ((cs.toList.drop l.base).take r.cells.length) ∧ (r.own = true → l.base = 0 ∧ fr = (0, 0) ∧ (0 < r.sz → cs.size = l.cap * r.sz))

theorem RowOk.mono {ι ι' : IM} {r : Row} {l : Loc} {w w' : World} (h : RowOk ι r l w) (hm : ∀ i l, ι i = some l → ι' i = some l) (hw : w'.heap[l.b]? = w.heap[l.b]?) : RowOk ι' r l w' := by
  obtain ⟨cs, e, fr, h1, h2, h3, h4, h5⟩ := h
  exact ⟨cs, e, fr, hw.trans h1, h2, h3.mono hm, h4, h5⟩

theorem RowOk.lt {ι : IM} {r : Row} {l : Loc} {w : World} (h : RowOk ι r l w) : l.b < w.heap.size := by
  obtain ⟨cs, e, fr, h1, _⟩ := h
  exact (Array.getElem?_eq_some_iff.1 h1).1

/-- The rows of some numbers stand. -/
def LiveAt (ι : IM) (H : AHeap) (w : World) (ids : List Nat) : Prop := ∀ i, i ∈ ids → ∀ r, hOf H i = some r → ∀ l, ι i = some l → RowOk ι r l w

theorem LiveAt.mono {ι : IM} {H : AHeap} {w : World} {a b : List Nat} (h : LiveAt ι H w b) (hs : ∀ i, i ∈ a → i ∈ b) : LiveAt ι H w a := fun i hi => h i (hs i hi)

theorem LiveAt.drew {ι : IM} {H : AHeap} {w : World} {a : List Nat} (h : LiveAt ι H w a) : LiveAt ι H w.drew a := fun i hi r hr l hl => (h i hi r hr l hl).mono (fun _ _ h => h) rfl

theorem cell_at (l : Loc) (o j : Nat) (w : World) (cs : Array Value) (e : TypeId) (fr : Nat × Nat) (h : w.heap[l.b]? = some (.cells cs e fr)) : w.cell? ((l.at o).add j) = cs[l.base + (o + j)]? := by
  rw [at_add]
  exact cell_of_row w l.b (l.base + (o + j)) cs e fr h

/-- Cells read out of a row. -/
theorem row_cells {ι : IM} {r : Row} {l : Loc} {w : World} (h : RowOk ι r l w) (o n : Nat) (hle : o + n ≤ r.cells.length) :
    ∃ vs : List Value, VRelL ι ((r.cells.drop o).take n) vs ∧ Ones vs ∧ vs.length = n ∧ ∀ j v, vs[j]? = some v → w.cell? ((l.at o).add j) = some v := by
  obtain ⟨cs, e, fr, h1, h2, h3, h4, h5⟩ := h
  refine ⟨(((cs.toList.drop l.base).take r.cells.length).drop o).take n, (h3.drop o).take n, fun v hv => h4 v (List.mem_of_mem_drop (List.mem_of_mem_take hv)), ?_, ?_⟩
  · simp; omega
  · intro j v hv
    rw [cell_at l o j w cs e fr h1]
    rw [List.getElem?_take] at hv
    split at hv
    · rw [List.getElem?_drop, List.getElem?_take] at hv
      split at hv
      · rw [List.getElem?_drop] at hv
        rw [← hv]; simp
      · cases hv
    · cases hv

theorem bytes_rel (ι : IM) (s : List UInt8) : VRelL ι (bytesA s) (s.map fun b => Value.int .u8 b.toNat) ∧ Ones (s.map fun b => Value.int .u8 b.toNat) := by
  refine ⟨⟨by simp [bytesA], fun i a v h1 h2 => ?_⟩, fun v hv => ?_⟩
  · simp only [bytesA, List.getElem?_map, Option.map_eq_some_iff] at h1 h2
    obtain ⟨b, hb, rfl⟩ := h1
    obtain ⟨c, hc, rfl⟩ := h2
    rw [hb] at hc; cases hc
    exact .int _ _
  · simp at hv
    obtain ⟨b, _, rfl⟩ := hv
    rfl

theorem src_sound {P : Program} {ι : IM} {H : AHeap} {w : World} {sz n : Nat} {x : AV} {X : Value} {xs : List AV} (hx : VRel ι x X) (hL : LiveAt ι H w (idOf x)) (h : srcCells H sz n x = some xs) :
    ∃ news : List Value, (∀ w' : World, w'.heap = w.heap → (Builtin.firstCells sz n X).run P w' = .ok news.toArray w') ∧ VRelL ι xs news ∧ Ones news ∧ news.length = n * sz := by
  unfold srcCells at h
  split at h
  · rename_i i o len cap
    split at h
    · rename_i r hr
      split at h
      · rename_i hle
        simp only [Option.some.injEq] at h; subst h
        obtain ⟨l, hl, A, m, c, hX⟩ : ∃ l, ι i = some l ∧ ∃ A m c, X = .slice (some A) m c ∧ A = l.at o := by
          cases hx with
          | slice _ _ _ l c hi hc h0 => exact ⟨l, hi, _, _, _, rfl, rfl⟩
          | slicec _ _ _ l c hi hc => exact ⟨l, hi, _, _, _, rfl, rfl⟩
        obtain ⟨rfl, rfl⟩ := hX
        obtain ⟨vs, v1, v2, v3, v4⟩ := row_cells (hL i (by simp [idOf]) r hr l hl) o (n * sz) hle
        refine ⟨vs, fun w' hw' => ?_, v1, v2, v3⟩
        exact run_firstCells_some w' sz n (l.at o) m c vs v3 fun j v hv => by
          have := v4 j v hv
          simpa [World.cell?, hw'] using this
      · cases h
    · cases h
  · split at h
    · rename_i hn
      subst hn
      simp only [Option.some.injEq] at h; subst h
      refine ⟨[], fun w' _ => ?_, VRelL.nil ι, Ones.nil, by simp⟩
      cases hx <;> simp [Builtin.firstCells, loadCells, loadCellsFrom]
    · cases h
  · rename_i s
    split at h
    · rename_i hn
      obtain ⟨hn, rfl⟩ := hn
      simp only [Option.some.injEq] at h; subst h
      cases hx
      refine ⟨(s.take n).map fun b => Value.int .u8 b.toNat, fun w' _ => ?_, (bytes_rel ι _).1, (bytes_rel ι _).2, by simp; omega⟩
      simp only [Builtin.firstCells, ByteArray.extract_mk, Sem.run_pure]
      simp
    · cases h
  · cases h

/-- What an operation on memory does to both heaps. -/
structure MStep (ι ι' : IM) (H H' : AHeap) (wr : Option Nat) (w w' : World) : Prop where
  ext : ∀ i l, ι i = some l → ι' i = some l
  dom : ∀ i l, ι' i = some l → ι i = some l ∨ (ι i = none ∧ H.length ≤ i ∧ i < H'.length ∧ (w.heap.size ≤ l.b ∨ ∃ j m, wr = some j ∧ hOf H' j = none ∧ ι j = some m ∧ m.b = l.b))
  rows : ∀ i r, hOf H' i = some r → (H.length ≤ i ∨ wr = some i) → ∀ l, ι' i = some l → RowOk ι' r l w'
  mapped : ∀ i r, hOf H' i = some r → H.length ≤ i → ∃ l, ι' i = some l
  wrown : ∀ j, wr = some j → ∃ r, hOf H j = some r ∧ r.own = true
  wrlive : ∀ j r', wr = some j → hOf H' j = some r' → r'.own = true
  keep : ∀ i, i < H.length → wr ≠ some i → H'[i]? = H[i]?
  len : H.length ≤ H'.length
  one : H'.length ≤ H.length + 1
  frame : ∀ b, b < w.heap.size → (∀ j m, wr = some j → ι j = some m → m.b ≠ b) → w'.heap[b]? = w.heap[b]?
  size : w.heap.size ≤ w'.heap.size
  os : w'.os = w.os
  tape : w'.tape = w.tape
  output : w'.output = w.output

theorem hOf_lt {H : AHeap} {i : Nat} {r : Row} (h : hOf H i = some r) : i < H.length := by
  unfold hOf at h
  by_cases hi : i < H.length
  · exact hi
  · rw [List.getElem?_eq_none (by omega)] at h; cases h

theorem MStep.same {ι : IM} {H : AHeap} {w : World} : MStep ι ι H H none w w where
  ext := fun _ _ h => h
  dom := fun _ _ h => .inl h
  rows := fun i r hr h => by
    rcases h with h | h
    · have := hOf_lt hr; omega
    · cases h
  mapped := fun i r hr h => by have := hOf_lt hr; omega
  wrown := fun _ h => by cases h
  wrlive := fun _ _ h => by cases h
  keep := fun _ _ _ => rfl
  len := Nat.le_refl _
  one := Nat.le_succ _
  frame := fun _ _ _ => rfl
  size := Nat.le_refl _
  os := rfl
  tape := rfl
  output := rfl

def updM (ι : IM) (i : Nat) (l : Loc) : IM := fun j => if j = i then some l else ι j

theorem updM_ext {ι : IM} {i : Nat} {l : Loc} (h : ι i = none) : ∀ j m, ι j = some m → updM ι i l j = some m := by
  intro j m hj
  unfold updM
  split
  · rename_i e; subst e; rw [h] at hj; cases hj
  · exact hj

theorem hOf_new (H : AHeap) (r : Row) : hOf (H ++ [.row r]) H.length = some r := by simp [hOf]
theorem hOf_old (H : AHeap) (o : AObj) (i : Nat) (h : i < H.length) : hOf (H ++ [o]) i = hOf H i := by simp [hOf, List.getElem?_append_left h]
/-- A new row. -/
theorem MStep.new' {ι : IM} {H : AHeap} {w w' : World} {r : Row} {cs : Array Value} {e : TypeId} {fr : Nat × Nat} {cap : Nat}
    (hold : ∀ j, j < w.heap.size → w'.heap[j]? = w.heap[j]?) (hnew : w'.heap[w.heap.size]? = some (.cells cs e fr)) (ho : w'.os = w.os) (ht : w'.tape = w.tape) (hu : w'.output = w.output)
    (hι : ι H.length = none) (h2 : r.cells.length ≤ cs.size) (h3 : VRelL ι r.cells (cs.toList.take r.cells.length)) (h4 : Ones (cs.toList.take r.cells.length))
    (h5 : r.own = true → fr = (0, 0) ∧ (0 < r.sz → cs.size = cap * r.sz)) :
    MStep ι (updM ι H.length ⟨w.heap.size, 0, cap⟩) H (H ++ [.row r]) none w w' := by
  have hx := updM_ext (l := ⟨w.heap.size, 0, cap⟩) hι
  refine ⟨hx, ?_, ?_, ?_, fun _ h => by (cases h), fun _ _ h => by (cases h), fun i hi _ => List.getElem?_append_left hi, by simp, by simp, ?_, ?_, ho, ht, hu⟩
  · intro i l hl
    unfold updM at hl
    split at hl
    · rename_i hi; subst hi
      simp only [Option.some.injEq] at hl; subst hl
      exact .inr ⟨hι, Nat.le_refl _, by simp, .inl (Nat.le_refl _)⟩
    · exact .inl hl
  · intro i q hq hi l hl
    rcases hi with hi | hi
    · have hlt := hOf_lt hq
      simp at hlt
      have : i = H.length := by omega
      subst this
      rw [hOf_new] at hq
      simp only [Option.some.injEq] at hq; subst hq
      simp only [updM, if_true, Option.some.injEq] at hl; subst hl
      exact ⟨cs, e, fr, hnew, by simpa using h2, by simpa using h3.mono hx, by simpa using h4, fun ho => ⟨rfl, h5 ho⟩⟩
    · cases hi
  · intro i q hq hi
    have hlt := hOf_lt hq
    simp at hlt
    have : i = H.length := by omega
    subst this
    exact ⟨_, by simp [updM]; rfl⟩
  · intro b hb _
    exact hold b hb
  · have := (Array.getElem?_eq_some_iff.1 hnew).1
    omega

/-- A new row, behind some draws. -/
theorem MStep.new {ι : IM} {H : AHeap} {w w1 : World} {r : Row} {cs : Array Value} {e : TypeId} {fr : Nat × Nat} {cap : Nat} (hw : w1.heap = w.heap ∧ w1.os = w.os ∧ w1.tape = w.tape ∧ w1.output = w.output)
    (hι : ι H.length = none) (h2 : r.cells.length ≤ cs.size) (h3 : VRelL ι r.cells (cs.toList.take r.cells.length)) (h4 : Ones (cs.toList.take r.cells.length))
    (h5 : r.own = true → fr = (0, 0) ∧ (0 < r.sz → cs.size = cap * r.sz)) :
    MStep ι (updM ι H.length ⟨w.heap.size, 0, cap⟩) H (H ++ [.row r]) none w (w1.alloc (.cells cs e fr)) := by
  refine MStep.new' (e := e) (fr := fr) (fun j hj => ?_) ?_ hw.2.1 hw.2.2.1 hw.2.2.2 hι h2 h3 h4 h5
  · show (w1.heap.push (.cells cs e fr))[j]? = _
    rw [hw.1, Array.getElem?_push, if_neg (by omega)]
  · show (w1.heap.push (.cells cs e fr))[w.heap.size]? = _
    rw [hw.1]; simp

/-- Cells written into a row of one's own. -/
theorem MStep.write {ι : IM} {H : AHeap} {w : World} {i o : Nat} {r : Row} {l : Loc} {xs : List AV} {vs : List Value} (hr : hOf H i = some r) (ho : r.own = true) (hl : ι i = some l) (hok : RowOk ι r l w)
    (hle : o + xs.length ≤ r.cells.length) (hx : VRelL ι xs vs) (h1 : Ones vs) (P : Program) :
    ∃ w', (storeCells (l.at o) vs 0).run P w = .ok () w' ∧ MStep ι ι H (H.set i (.row { r with cells := splice r.cells o xs })) (some i) w w' := by
  obtain ⟨cs, e, fr, g1, g2, g3, g4, g5⟩ := hok
  obtain ⟨hb, hfr, hcap⟩ := g5 ho
  subst hfr
  obtain ⟨b, base, cap⟩ := l
  simp only at hb g1 g2 g3 g4 hcap
  subst hb
  have hlen : vs.length = xs.length := hx.1.symm
  have hst := run_storeCells_at P b o e vs 0 cs w g1 (by omega) h1
  simp only [Nat.add_zero] at hst
  refine ⟨_, by simpa [Loc.at] using hst, ?_⟩
  have hi := hOf_lt hr
  simp only [List.drop_zero] at g3 g4
  have g2' : r.cells.length ≤ cs.toList.length := by simpa using g2
  have eq1 : (cs.toList.take o ++ (vs ++ cs.toList.drop (o + vs.length))).take r.cells.length =
      (cs.toList.take r.cells.length).take o ++ vs ++ (cs.toList.take r.cells.length).drop (o + vs.length) := by
    have ho' : o ≤ cs.toList.length := by omega
    rw [List.append_assoc, List.take_append, List.length_take, Nat.min_eq_left ho', List.take_take, List.take_take, Nat.min_comm, Nat.min_eq_left (show o ≤ r.cells.length by omega)]
    congr 1
    rw [List.take_append, List.take_of_length_le (by omega)]
    congr 1
    rw [List.drop_take]
    congr 1; omega
  refine ⟨fun _ _ h => h, fun _ _ h => .inl h, ?_, ?_, fun j hj => ?_, fun j r' hj hq => ?_, fun j hj hne => ?_, by simp, by simp, ?_, by simp, rfl, rfl, rfl⟩
  · intro j q hq hj m hm
    rcases hj with hj | hj
    · have := hOf_lt hq; simp at this; omega
    · simp only [Option.some.injEq] at hj; subst hj
      have hq' : q = { r with cells := splice r.cells o xs } := by
        unfold hOf at hq; rw [List.getElem?_set_self hi] at hq; simpa using hq.symm
      subst hq'
      rw [hl] at hm; simp only [Option.some.injEq] at hm; subst hm
      refine ⟨_, e, (0, 0), setRow_heap w b cs _ e _ g1, ?_, ?_, ?_, ?_⟩
      · simp [splice]; omega
      · have hsl : (splice r.cells o xs).length = r.cells.length := by simp [splice]; omega
        simp only [hsl, List.drop_zero]
        rw [eq1, hlen]
        exact ((g3.take o).append hx).append (g3.drop _)
      · have hsl : (splice r.cells o xs).length = r.cells.length := by simp [splice]; omega
        simp only [hsl, List.drop_zero]
        rw [eq1]
        intro v hv
        simp only [List.mem_append] at hv
        rcases hv with (hv | hv) | hv
        · exact g4 v (List.mem_of_mem_take hv)
        · exact h1 v hv
        · exact g4 v (List.mem_of_mem_drop hv)
      · intro _
        refine ⟨rfl, rfl, fun hs => ?_⟩
        rw [← hcap hs]
        simp; omega
  · intro j q hq hj
    have := hOf_lt hq; simp at this; omega
  · simp only [Option.some.injEq] at hj; subst hj
    exact ⟨r, hr, ho⟩
  · simp only [Option.some.injEq] at hj; subst hj
    unfold hOf at hq; rw [List.getElem?_set_self hi] at hq
    simp only [Option.some.injEq] at hq; subst hq
    exact ho
  · rw [List.getElem?_set_ne (fun e => hne (by rw [e]))]
  · intro c hc hne
    exact setRow_other w b c _ (fun e => hne i _ rfl hl e.symm)

end Go.Proofs.Qq

/-
  Operations that make, read or write memory, by the check.
-/
namespace Go.Proofs.Qq

variable {P : Program} {ι : IM} {env : Env} {a : Act} {H : AHeap} {w : World}

/-- What an operation on memory comes to. -/
def MGives (P : Program) (ι : IM) (H : AHeap) (w : World) (s : Sem Next) (v : AV) (H' : AHeap) (wr : Option Nat) : Prop :=
  ∃ ι' u w', (s.run P w = .ok (.value u) w' ∨ (s.run P w = .ok .skip w' ∧ u = Go.undef)) ∧ VRel ι' v u ∧ MStep ι ι' H H' wr w w'

theorem mgives_of {s : Sem Value} {v : AV} {H' : AHeap} {wr : Option Nat} (h : ∃ ι' u w', s.run P w = .ok u w' ∧ VRel ι' v u ∧ MStep ι ι' H H' wr w w') :
    MGives P ι H w (do pure (.value (← s))) v H' wr := by
  obtain ⟨ι', u, w', h1, h2, h3⟩ := h
  exact ⟨ι', u, w', .inl (by rw [Sem.run_bind, h1]; rfl), h2, h3⟩

theorem newRow_run (e : TypeId) (cs : Array Value) (w : World) : (Go.newRow e cs).run P w = .ok ⟨w.heap.size, 0, none⟩ (w.alloc (.cells cs e)) := by
  simp [Go.newRow]

theorem same_w (w : World) : w.heap = w.heap ∧ w.os = w.os ∧ w.tape = w.tape ∧ w.output = w.output := ⟨rfl, rfl, rfl, rfl⟩

/-- A variable. -/
theorem m_var {cells : List AV} {e : TypeId} {cs : Array Value} (hι : ι H.length = none) (h1 : VRelL ι cells cs.toList) (h2 : Ones cs.toList) :
    ∃ ι' u w', (do pure (.pointer (some (← Go.newRow e cs))) : Sem Value).run P w = .ok u w' ∧ VRel ι' (.ptr (some (H.length, 0))) u ∧ MStep ι ι' H (newRow H cells 0) none w w' := by
  have hl : cells.length = cs.toList.length := h1.1
  refine ⟨updM ι H.length ⟨w.heap.size, 0, 0⟩, .pointer (some ⟨w.heap.size, 0, none⟩), w.alloc (.cells cs e), ?_, .ptr _ 0 ⟨w.heap.size, 0, 0⟩ (by simp [updM]), ?_⟩
  · rw [Sem.run_bind, newRow_run]; rfl
  · exact MStep.new (r := ⟨cells, true, 0⟩) (fr := (0, 0)) (same_w w) hι (by simp at hl; simp; omega) (by simp only [hl, List.take_length]; exact h1) (by simp only [hl, List.take_length]; exact h2)
      (fun _ => ⟨rfl, fun h => by simp at h⟩)

theorem rep_get {zs : Array Value} {n : Nat} : ∀ (m : Nat), (List.range (m * zs.size)).map (fun i => zs[i % zs.size]!) = (List.replicate m zs.toList).flatten
  | 0 => by simp
  | m + 1 => by
    rw [Nat.succ_mul, Nat.add_comm, List.range_add, List.map_append, List.replicate_succ, List.flatten_cons, ← rep_get (n := n) m]
    congr 1
    · apply List.ext_getElem
      · simp
      · intro i h1 h2
        simp at h1
        simp [Nat.mod_eq_of_lt h1, h1]
    · rw [List.map_map]
      apply List.map_congr_left
      intro i _
      simp

theorem rep_rel {z : List AV} {zs : List Value} (h : VRelL ι z zs) (h1 : Ones zs) : ∀ (n : Nat), VRelL ι (repCells z n) (List.replicate n zs).flatten ∧ Ones (List.replicate n zs).flatten
  | 0 => ⟨VRelL.nil ι, Ones.nil⟩
  | n + 1 => by
    have := rep_rel h h1 n
    rw [List.replicate_succ, List.flatten_cons]
    refine ⟨h.append this.1, fun v hv => ?_⟩
    rcases List.mem_append.1 hv with hv | hv
    · exact h1 v hv
    · exact this.2 v hv

theorem repCells_len (z : List AV) : ∀ n, (repCells z n).length = n * z.length
  | 0 => by simp [repCells]
  | n + 1 => by simp [repCells, repCells_len z n, Nat.succ_mul, Nat.add_comm]

/-- A slice literal. -/
theorem m_bslice (hE : EnvRel ι env a.tmps) (hι : ι H.length = none) {t e : TypeId} {size len : Nat} {zero cs : List AV} {parts : Array (Nat × Operand)} {parts' : List (Nat × Nat × Opd)}
    (hu : P.underlying t = some (.slice e)) (hs : sizeIs P e size = true) (hz : zeroIs P e zero = true) (hsm : len * size ≤ 16777216)
    (hp : okParts parts.toList parts' (fun i => some (i * size, size)) = true) (hf : fillA (repCells zero len) (evParts env parts') = some cs) :
    ∃ ι' u w', (Instr.buildSlice t len (parts.map fun (i, x) => (i, a.eval x))).run P w = .ok u w' ∧ VRel ι' (.slice (some (H.length, 0)) len none) u ∧ MStep ι ι' H (newRow H cs size) none w w' := by
  obtain ⟨z, z1, z2, z3, z4⟩ := zero_sound (P := P) hz ι w
  have hzs : z.cells.size = size := by
    have h1 := hs; have h2 := z4
    simp only [sizeIs, beq_iff_eq] at h1 h2
    rw [h1] at h2; simpa using h2.symm
  have hrep := rep_rel (ι := ι) z2 z3 len
  have e1 : (parts.map fun (i, x) => (i, a.eval x)).toList = parts.toList.map fun p => (p.1, a.eval p.2) := by simp
  -- the cells that the literal begins with
  have hbase : ∃ base : Array Value, base.toList = (List.replicate len z.cells.toList).flatten ∧ base.size = len * size ∧
      ((do let zero ← (if len * size = 0 then pure #[] else do pure (← zeroValue e).cells); pure ((Array.range (len * size)).map (zero[· % zero.size]!)) : Sem (Array Value)).run P w = .ok base w) := by
    by_cases h0 : len * size = 0
    · refine ⟨#[], ?_, by simp [h0], ?_⟩
      · have : (List.replicate len z.cells.toList).flatten.length = 0 := by
          have := hrep.1.1
          rw [repCells_len, z2.1] at this
          simp at this
          simp
          rw [hzs]; simpa using h0
        exact (List.eq_nil_of_length_eq_zero this).symm
      · simp [h0]
    · refine ⟨(Array.range (len * size)).map (z.cells[· % z.cells.size]!), ?_, by simp, ?_⟩
      · rw [← rep_get (n := 0) len, hzs]; simp
      · simp [h0, z1]
  obtain ⟨base, b1, b2, b3⟩ := hbase
  obtain ⟨us, f1, f2, f3, f4⟩ := fill_sound hE _ _ _ _ base _ hp (by rw [b1]; exact hrep.1) (by rw [b1]; exact hrep.2) hf
  have hlen : cs.length = us.toList.length := f2.1
  refine ⟨updM ι H.length ⟨w.heap.size, 0, len⟩, .slice (some ⟨w.heap.size, 0, none⟩) len len, w.alloc (.cells us e), ?_, ?_, ?_⟩
  · have hle : ¬ (len * size > 2 ^ 24) := by omega
    simp only [Sem.run_bind] at b3
    simp only [Instr.buildSlice, Sem.run_bind, run_underlying hu, Result.andThen_ok, run_sizeOf' hs, hle, Sem.run_ite, if_false]
    by_cases h0 : len * size = 0
    · simp only [h0, if_true, Sem.run_pure, Result.andThen_ok] at b3 ⊢
      simp only [Result.ok.injEq, and_true] at b3
      rw [h0] at b2
      simp only [b3, e1, f1, Sem.run_bind, newRow_run, Result.andThen_ok, Sem.run_pure]
    · simp only [h0, if_false, Sem.run_bind, z1, Sem.run_pure, Result.andThen_ok] at b3 ⊢
      simp only [Result.ok.injEq, and_true] at b3
      simp only [b3, e1, f1, Sem.run_bind, newRow_run, Result.andThen_ok, Sem.run_pure]
  · exact .slice _ 0 len ⟨w.heap.size, 0, len⟩ len (by simp [updM]) (Nat.le_refl _) (fun _ => rfl)
  · exact MStep.new (r := ⟨cs, true, size⟩) (fr := (0, 0)) (same_w w) hι (by simp at hlen; simp; omega) (by simp only [hlen, List.take_length]; exact f2) (by simp only [hlen, List.take_length]; exact f3)
      (fun _ => ⟨rfl, fun _ => by rw [f4, b2]⟩)

/-- 'make'. -/
theorem m_mkslice (hι : ι H.length = none) {t e : TypeId} {size bytes : Nat} {zero : List AV} {l c : Int}
    (hu : P.underlying t = some (.slice e)) (hs : sizeIs P e size = true) (hz : zeroIs P e zero = true) (hb : (P.info? e).map (·.bytes) = some bytes)
    (h : 0 ≤ l ∧ l ≤ c ∧ bytes * c ≤ room ∧ c ≤ room) :
    ∃ ι' u w', (Instr.makeSlice t (.int .i64 l) (.int .i64 c)).run P w = .ok u w' ∧ VRel ι' (.slice (some (H.length, 0)) l.toNat none) u ∧ MStep ι ι' H (newRow H (repCells zero c.toNat) size) none w w' := by
  obtain ⟨h0, h1, h2, h3⟩ := h
  unfold zeroIs at hz
  unfold sizeIs at hs
  cases hi : P.info? e with
  | none => simp [hi] at hz
  | some i =>
    simp only [hi] at hz
    cases hzz : i.zero with
    | none => simp [hzz] at hz
    | some z =>
      simp only [hzz, Bool.and_eq_true, beq_iff_eq] at hz
      simp [hi] at hs hb
      subst hs; subst hb
      obtain ⟨g1, g2⟩ := okCells_sound ι hz.1
      unfold room at h2 h3
      have hr := run_make (P := P) w t e i z hu hi hzz .i64 .i64 l c h0 h1 (by omega) (by omega)
      have hrep := rep_rel g1 g2 c.toNat
      have hcells : (madeCells z.cells (c.toNat * i.size)).toList = (List.replicate c.toNat z.cells.toList).flatten := by
        rw [← hz.2, ← rep_get (n := 0)]; simp [madeCells]
      have hsz : (madeCells z.cells (c.toNat * i.size)).size = c.toNat * i.size := size_madeCells _ _
      have hlen : (repCells zero c.toNat).length = (madeCells z.cells (c.toNat * i.size)).toList.length := by rw [hcells]; exact hrep.1.1
      refine ⟨updM ι H.length ⟨w.heap.size, 0, c.toNat⟩, _, _, hr, ?_, ?_⟩
      · exact .slice _ 0 l.toNat ⟨w.heap.size, 0, c.toNat⟩ c.toNat (by simp [updM]) (by omega) (fun _ => rfl)
      · exact MStep.new (r := ⟨repCells zero c.toNat, true, i.size⟩) (fr := (0, 0)) (same_w w) hι (by simp at hlen; simp; omega) (by simp only [hlen, List.take_length]; rw [hcells]; exact hrep.1)
          (by simp only [hlen, List.take_length]; rw [hcells]; exact hrep.2) (fun _ => ⟨rfl, fun _ => hsz⟩)

/-- A load. -/
theorem load_sound {t : TypeId} {agg : Bool} {size : Nat} {x v : AV} {A : Addr} (ha : aggIs P t agg = true) (hs : sizeIs P t size = true) (hx : VRel ι x (.pointer (some A)))
    (hL : LiveAt ι H w (idOf x)) (h : loadA agg size H x = some v) : ∃ u, (loadVar t A).run P w = .ok u w ∧ VRel ι v u ∧ ∀ r, u ≠ .tuple r := by
  unfold loadA ptrAt at h
  cases hx with
  | ptr i o l hl =>
    simp only at h
    split at h
    · rename_i p q r hr
      split at hr
      · rename_i rr hrr
        simp only [Option.some.injEq, Prod.mk.injEq] at hr
        obtain ⟨rfl, rfl, rfl⟩ := hr
        have hok := hL i (by simp [idOf]) rr hrr l hl
        unfold partA at h
        cases agg with
        | true =>
          simp only [if_true] at h
          split at h
          · rename_i hle
            simp only [Option.some.injEq] at h; subst h
            obtain ⟨vs, v1, v2, v3, v4⟩ := row_cells hok o size hle
            refine ⟨.agg vs.toArray, ?_, VRelL.agg v1 v2, fun r => by simp⟩
            have hc := run_loadCells_list (P := P) w (l.at o) vs v4
            rw [v3] at hc
            simp only [loadVar, Sem.run_bind, run_isAgg' ha, run_sizeOf' hs, Result.andThen_ok, if_true, hc, Sem.run_pure]
          · cases h
        | false =>
          simp only [Bool.false_eq_true, if_false] at h
          have hlt := (List.getElem?_eq_some_iff.1 h).1
          obtain ⟨vs, v1, v2, v3, v4⟩ := row_cells hok o 1 (by omega)
          rw [take1 h] at v1
          obtain ⟨u, hu⟩ : ∃ u, vs = [u] := by
            match vs, v3 with
            | [u], _ => exact ⟨u, rfl⟩
          subst hu
          have hc := v4 0 u rfl
          rw [at_add, Nat.add_zero] at hc
          refine ⟨u, ?_, v1.head, fun r e => ?_⟩
          · simp only [loadVar, Sem.run_bind, run_isAgg' ha, Result.andThen_ok, Bool.false_eq_true, if_false, run_load, hc]
          · have := v2 u (by simp)
            rw [e] at this; cases this
      · cases hr
    · cases h

/-- A store. -/
theorem m_store {t : TypeId} {size : Nat} {v : AV} {X V : Value} {i o : Nat} {H' : AHeap} (hs : sizeIs P t size = true) (hx : VRel ι (.ptr (some (i, o))) X) (hv : VRel ι v V)
    (hL : LiveAt ι H w [i]) (hc : v.cells.length = size ∧ v.noTup = true) (h : wrRow H i o v.cells = some H') :
    ∃ w', (Instr.storeAt t X V).run P w = .ok () w' ∧ MStep ι ι H H' (some i) w w' := by
  unfold wrRow at h
  split at h
  · rename_i r hr
    split at h
    · rename_i hle
      simp only [Option.some.injEq] at h; subst h
      cases hx with
      | ptr _ _ l hl =>
        obtain ⟨w', h1, h2⟩ := MStep.write hr hle.1 hl (hL i (by simp) r hr l hl) hle.2 hv.cells (hv.ones' hc.2) P
        refine ⟨w', ?_, h2⟩
        have hsz : V.cells.size = size := by have := hv.cells.1; simp at this; omega
        simp only [Instr.storeAt, Instr.sureAddr, storeVar, Sem.run_bind, Sem.run_pure, Result.andThen_ok, run_sizeOf' hs, hsz, ne_eq, not_true_eq_false, if_false, h1]
    · cases h
  · cases h

/-- 'clear'. -/
theorem zeroCells_list (z : Array Value) (n : Nat) : (Builtin.zeroCells z n).toList = (List.replicate n z.toList).flatten := by
  rw [← rep_get (n := 0)]; simp [Builtin.zeroCells]

theorem m_clear {t e : TypeId} {zero : List AV} {x v : AV} {X : Value} {H' : AHeap} {wr : Option Nat} (hu : P.underlying t = some (.slice e)) (hz : zeroIs P e zero = true) (hx : VRel ι x X)
    (hL : LiveAt ι H w (idOf x)) (h : clearA zero H x = some (v, H', wr)) (ty : TypeId) :
    ∃ ι' u w', (Builtin.clear_ #[t] ty #[X]).run P w = .ok u w' ∧ VRel ι' v u ∧ MStep ι ι' H H' wr w w' := by
  unfold clearA at h
  split at h
  · rename_i ao n c
    split at h
    · simp only [Option.some.injEq, Prod.mk.injEq] at h
      obtain ⟨rfl, rfl, rfl⟩ := h
      refine ⟨ι, .tuple #[], w, ?_, VRel.undef ι, MStep.same⟩
      cases hx <;> simp [Builtin.clear_, run_underlying hu]
    · rename_i i o
      split at h
      · rename_i hn
        subst hn
        simp only [Option.some.injEq, Prod.mk.injEq] at h
        obtain ⟨rfl, rfl, rfl⟩ := h
        refine ⟨ι, .tuple #[], w, ?_, VRel.undef ι, MStep.same⟩
        cases hx <;> simp [Builtin.clear_, run_underlying hu]
      · rename_i hn
        split at h
        · rename_i H1 hw
          simp only [Option.some.injEq, Prod.mk.injEq] at h
          obtain ⟨rfl, rfl, rfl⟩ := h
          obtain ⟨z, z1, z2, z3, _⟩ := zero_sound (P := P) hz ι w
          have hrep := rep_rel z2 z3 n
          rw [← zeroCells_list] at hrep
          unfold wrRow at hw
          split at hw
          · rename_i r hr
            split at hw
            · rename_i hle
              simp only [Option.some.injEq] at hw; subst hw
              have key : ∀ (l : Loc) (cc : Nat), ι i = some l → ∃ ι' u w', (Builtin.clear_ #[t] ty #[.slice (some (l.at o)) n cc]).run P w = .ok u w' ∧ VRel ι' (.tup []) u ∧ MStep ι ι' H (H.set i (.row { r with cells := splice r.cells o (repCells zero n) })) (some i) w w' := by
                intro l cc hl
                obtain ⟨w', h1, h2⟩ := MStep.write hr hle.1 hl (hL i (by simp [idOf]) r hr l hl) hle.2 hrep.1 hrep.2 P
                refine ⟨ι, .tuple #[], w', ?_, VRel.undef ι, h2⟩
                obtain ⟨m, rfl⟩ : ∃ m, n = m + 1 := ⟨n - 1, by omega⟩
                simp [Builtin.clear_, run_underlying hu, z1, h1]
              cases hx with
              | slice _ _ _ l cc hl _ _ => exact key l cc hl
              | slicec _ _ _ l cc hl _ => exact key l _ hl
            · cases hw
          · cases hw
        · cases h
  · cases h

/-- '[]byte(s)'. -/
theorem m_s2b (hι : ι H.length = none) {s : List UInt8} {src dst e : TypeId} (h1 : P.underlying src = some .string) (h2 : P.underlying dst = some (.slice e)) (h3 : P.underlying e = some (.int .u8)) :
    ∃ ι' u w', (convert src dst (.string ⟨s.toArray⟩)).run P w = .ok u w' ∧ VRel ι' (.slice (some (H.length, 0)) s.length none) u ∧ MStep ι ι' H (H ++ [.row ⟨bytesA s, false, 0⟩]) none w w' := by
  have hr := Lib.run_convert_string_bytes (P := P) w src dst e ⟨s.toArray⟩ h1 h2 h3
  have hsz : (ByteArray.mk s.toArray).size = s.length := by simp [ByteArray.size_mk']
  have hge := grownCap_ge w s.length 0 e
  rw [hsz] at hr
  refine ⟨updM ι H.length ⟨w.heap.size, 0, grownCap w s.length 0 e⟩, _, _, hr, ?_, ?_⟩
  · exact .slice _ 0 s.length ⟨w.heap.size, 0, grownCap w s.length 0 e⟩ _ (by simp [updM]) hge (fun _ => rfl)
  · have hb := bytes_rel ι s
    have ht : (Lib.bytesCells w e ⟨s.toArray⟩).toList.take s.length = s.map fun b => Value.int .u8 b.toNat := by
      simp [Lib.bytesCells]
    have hl : (bytesA s).length = s.length := by simp [bytesA]
    refine MStep.new' (e := e) (cs := Lib.bytesCells w e ⟨s.toArray⟩) (r := ⟨bytesA s, false, 0⟩) (fun j hj => Lib.bytesWorld_at_old w e _ j hj) (Lib.bytesWorld_at_new w e _) rfl rfl rfl hι ?_ ?_ ?_ ?_
    · simp [bytesA, Lib.bytesCells]
    · simp only [hl]; rw [ht]; exact hb.1
    · simp only [hl]; rw [ht]; exact hb.2
    · intro h; cases h

/-- 'string(b)'. -/
theorem bytesOf_rel : ∀ {cs : List AV} {vs : List Value} {bs : List UInt8}, VRelL ι cs vs → bytesOfA cs = some bs → ∃ ns : List Int, vs = ns.map (Value.int .u8) ∧ bs = ns.map fun n => UInt8.ofNat n.toNat
  | [], [], bs, _, h => by simp [bytesOfA] at h; subst h; exact ⟨[], rfl, rfl⟩
  | c :: cs, v :: vs, bs, hr, h => by
    simp only [bytesOfA] at h
    split at h
    · rename_i b bs' hb hbs
      simp only [Option.some.injEq] at h; subst h
      obtain ⟨ns, rfl, rfl⟩ := bytesOf_rel hr.tail hbs
      unfold byteOfA at hb
      split at hb
      · rename_i n
        simp only [Option.some.injEq] at hb; subst hb
        have := hr.head
        cases this
        exact ⟨n :: ns, rfl, rfl⟩
      · cases hb
    · cases h
  | [], _ :: _, _, hr, _ => by have := hr.1; simp at this
  | _ :: _, [], _, hr, _ => by have := hr.1; simp at this

theorem foldl_push (ns : List Int) : ∀ (s : List UInt8), ns.foldl (fun (r : ByteArray) n => r.push (UInt8.ofNat n.toNat)) ⟨s.toArray⟩ = ⟨(s ++ ns.map fun n => UInt8.ofNat n.toNat).toArray⟩ := by
  induction ns with
  | nil => intro s; simp
  | cons n ns ih =>
    intro s
    simp only [List.foldl_cons, List.map_cons]
    have : (ByteArray.mk s.toArray).push (UInt8.ofNat n.toNat) = ⟨(s ++ [UInt8.ofNat n.toNat]).toArray⟩ := by
      simp [ByteArray.push]
    rw [this, ih]
    simp

theorem m_b2s {src dst e : TypeId} {x v : AV} {X : Value} (h1 : P.underlying src = some (.slice e)) (h2 : P.underlying dst = some .string) (h3 : P.underlying e = some (.int .u8)) (hx : VRel ι x X)
    (hL : LiveAt ι H w (idOf x)) (h : b2sA H x = some v) : ∃ u, (convert src dst X).run P w = .ok u w ∧ VRel ι v u := by
  unfold b2sA at h
  split at h
  · simp only [Option.some.injEq] at h; subst h
    cases hx with
    | nilslice => exact ⟨.string .empty, by rw [run_convert_bytes_string w src dst e none 0 0 h1 h3 h2]; rfl, .str []⟩
    | empty A c =>
      refine ⟨.string .empty, ?_, .str []⟩
      rw [run_convert_bytes_string w src dst e (some A) 0 c h1 h3 h2]
      exact run_bytesToString w A 0 c [] (by simp [loadCells, loadCellsFrom])
  · rename_i i o len c
    split at h
    · cases h
    · rename_i cs hcs
      split at h
      · rename_i bs hbs
        simp only [Option.some.injEq] at h; subst h
        obtain ⟨news, n1, n2, n3, n4⟩ := src_sound (P := P) hx hL hcs
        obtain ⟨ns, rfl, rfl⟩ := bytesOf_rel n2 hbs
        obtain ⟨A, C, rfl⟩ : ∃ A C, X = .slice (some A) len C := by cases hx <;> exact ⟨_, _, rfl⟩
        have hl := n1 w rfl
        simp only [Builtin.firstCells, Nat.mul_one] at hl
        refine ⟨_, ?_, .str _⟩
        rw [run_convert_bytes_string w src dst e (some A) len C h1 h3 h2, run_bytesToString w A len C ns hl]
        have := foldl_push ns []
        simp only [List.nil_append] at this
        rw [← this]
        rfl
      · cases h
  · cases h

end Go.Proofs.Qq

/-
  'append' and 'copy'.
-/
namespace Go.Proofs.Qq

variable {P : Program} {ι : IM} {env : Env} {a : Act} {H : AHeap} {w : World}

def noInt : Option TypeDesc → Bool
  | some (.slice _) | some .string => true
  | _ => false

theorem app_room {t u e : TypeId} {size n : Nat} {X : Value} {news : List Value} (hu : P.underlying t = some (.slice e)) (hs : sizeIs P e size = true) (hn : noInt (P.underlying u) = true)
    (hl : Builtin.lenOf X = pure n) (hf : (Builtin.firstCells size n X).run P w = .ok news.toArray w) (base : Option Addr) (sLen sCap : Nat) (hroom : sLen + n ≤ sCap) (ty : TypeId) :
    (Builtin.append_ #[t, u] ty #[.slice base sLen sCap, X]).run P w =
      ((match base with | some b => storeCells (b.add (sLen * size)) news 0 | none => pure () : Sem Unit).run P w).andThen fun _ w' => .ok (.slice base (sLen + n) sCap) w' := by
  unfold noInt at hn
  split at hn
  · rename_i x hd
    cases base with
    | none => simp [Builtin.append_, run_underlying hu, run_underlying hd, run_sizeOf' hs, hl, hroom, hf]
    | some b => simp [Builtin.append_, run_underlying hu, run_underlying hd, run_sizeOf' hs, hl, hroom, hf]
  · rename_i hd
    cases base with
    | none => simp [Builtin.append_, run_underlying hu, run_underlying hd, run_sizeOf' hs, hl, hroom, hf]
    | some b => simp [Builtin.append_, run_underlying hu, run_underlying hd, run_sizeOf' hs, hl, hroom, hf]
  · cases hn

theorem app_grow {t u e : TypeId} {i : TypeInfo} {z : Value} {n : Nat} {X : Value} {olds news : List Value} (hu : P.underlying t = some (.slice e)) (hi : P.info? e = some i) (hz : i.zero = some z) (hn : noInt (P.underlying u) = true)
    (hl : Builtin.lenOf X = pure n) (hf : ∀ w', w'.heap = w.heap → (Builtin.firstCells i.size n X).run P w' = .ok news.toArray w') (base : Option Addr) (sLen sCap : Nat)
    (ho : ∀ w', w'.heap = w.heap → (Builtin.firstCells i.size sLen (.slice base sLen sCap)).run P w' = .ok olds.toArray w')
    (hg : sCap < sLen + n) (hb : (sLen + n) * i.bytes ≤ room) (hb0 : 0 < i.bytes) (ty : TypeId) :
    (Builtin.append_ #[t, u] ty #[.slice base sLen sCap, X]).run P w =
      .ok (.slice (some ⟨w.heap.size, 0, none⟩) (sLen + n) (grownCap w (sLen + n) sCap e))
        (w.drew.alloc (.cells (olds.toArray ++ news.toArray ++ Builtin.zeroCells z.cells (grownCap w (sLen + n) sCap e - (sLen + n))) e)) := by
  unfold room at hb
  have h1 : ¬ (sLen + n ≤ sCap) := by omega
  have hf1 := growslice_fits (need := sLen + n) (old := sCap) (bytes := i.bytes) hg hb
  have h48 : ¬ (281474976710656 < Builtin.nextslicecap (sLen + n) sCap * i.bytes) := by omega
  have hbz : i.bytes ≠ 0 := by omega
  have hfw := hf w.drew rfl
  have how := ho w.drew rfl
  unfold noInt at hn
  split at hn
  · rename_i x hd
    simp [Builtin.append_, run_underlying hu, run_underlying hd, sizeOf, typeInfo, zeroValue, hi, hz, hl, h1, hbz, h48, Question.forced, how, hfw, Go.newRow, grownCap]
    congr 2
    apply Array.ext'
    simp
  · rename_i hd
    simp [Builtin.append_, run_underlying hu, run_underlying hd, sizeOf, typeInfo, zeroValue, hi, hz, hl, h1, hbz, h48, Question.forced, how, hfw, Go.newRow, grownCap]
    congr 2
    apply Array.ext'
    simp
  · cases hn

theorem lenOf_sound {x : AV} {X : Value} {n : Nat} (hx : VRel ι x X) (h : lenOfA x = some n) : Builtin.lenOf X = pure n := by
  unfold lenOfA at h
  split at h
  · simp only [Option.some.injEq] at h; subst h; cases hx <;> rfl
  · simp only [Option.some.injEq] at h; subst h; cases hx; simp [Builtin.lenOf, ByteArray.size_mk']
  · cases h

/-- A row that takes the place of one that dies. -/
theorem MStep.grow {w' : World} {i : Nat} {r q : Row} {m l : Loc} (hr : hOf H i = some r) (ho : r.own = true) (hm : ι i = some m) (hι : ι H.length = none) (hlb : w.heap.size ≤ l.b ∨ m.b = l.b)
    (hq : RowOk (updM ι H.length l) q l w') (hfr : ∀ b, b < w.heap.size → m.b ≠ b → w'.heap[b]? = w.heap[b]?) (hsz : w.heap.size ≤ w'.heap.size) (hos : w'.os = w.os) (ht : w'.tape = w.tape) (hout : w'.output = w.output) :
    MStep ι (updM ι H.length l) H ((H.set i .dead) ++ [.row q]) (some i) w w' := by
  have hi := hOf_lt hr
  have hx := updM_ext (l := l) hι
  have hdead : hOf ((H.set i .dead) ++ [.row q]) i = none := by
    simp [hOf, List.getElem?_append_left (show i < (H.set i .dead).length by simpa using hi), hi]
  have hnew : ∀ j x, hOf ((H.set i .dead) ++ [.row q]) j = some x → H.length ≤ j → j = H.length ∧ x = q := by
    intro j x hj hle
    have hlt := hOf_lt hj
    simp at hlt
    have : j = H.length := by omega
    subst this
    refine ⟨rfl, ?_⟩
    simpa [hOf] using hj.symm
  refine ⟨hx, ?_, ?_, ?_, fun j hj => ?_, fun j x hj hx => ?_, fun j hj hne => ?_, by simp, by simp, ?_, hsz, hos, ht, hout⟩
  · intro j k hk
    unfold updM at hk
    split at hk
    · rename_i hj; subst hj
      simp only [Option.some.injEq] at hk; subst hk
      refine .inr ⟨hι, Nat.le_refl _, by simp, ?_⟩
      rcases hlb with h | h
      · exact .inl h
      · exact .inr ⟨i, m, rfl, hdead, hm, h⟩
    · exact .inl hk
  · intro j x hj hw k hk
    rcases hw with hw | hw
    · obtain ⟨rfl, rfl⟩ := hnew j x hj hw
      simp only [updM, if_true, Option.some.injEq] at hk; subst hk
      exact hq
    · simp only [Option.some.injEq] at hw; subst hw
      rw [hdead] at hj; cases hj
  · intro j x hj hle
    obtain ⟨rfl, rfl⟩ := hnew j x hj hle
    exact ⟨l, by simp [updM]⟩
  · simp only [Option.some.injEq] at hj; subst hj; exact ⟨r, hr, ho⟩
  · simp only [Option.some.injEq] at hj; subst hj; rw [hdead] at hx; cases hx
  · rw [List.getElem?_append_left (by simpa using hj), List.getElem?_set_ne (fun e => hne (by rw [e]))]
  · intro b hb hne
    exact hfr b hb (hne i m rfl hm)

theorem zc_len (z : Array Value) (n : Nat) : (Builtin.zeroCells z n).size = n * z.size := size_zeroCells z n

theorem Ones.append {a b : List Value} (h : Ones a) (k : Ones b) : Ones (a ++ b) := fun v hv => by
  rcases List.mem_append.1 hv with hv | hv
  · exact h v hv
  · exact k v hv

theorem m_append {t u e : TypeId} {i : TypeInfo} {z : Value} {s x v : AV} {S X : Value} {H' : AHeap} {wr : Option Nat} (hu : P.underlying t = some (.slice e)) (hi : P.info? e = some i) (hz : i.zero = some z)
    (hzs : z.cells.size = i.size) (hn : noInt (P.underlying u) = true) (hS : VRel ι s S) (hX : VRel ι x X) (hL : LiveAt ι H w (idOf s ++ idOf x)) (hι : H.length < H'.length → ι H.length = none)
    (h : appendA i.size i.bytes H s x = some (v, H', wr)) (ty : TypeId) :
    ∃ ι' q w', (Builtin.append_ #[t, u] ty #[S, X]).run P w = .ok q w' ∧ VRel ι' v q ∧ MStep ι ι' H H' wr w w' := by
  have hsi : sizeIs P e i.size = true := by simp [sizeIs, hi]
  unfold appendA at h
  split at h
  · cases h
  · rename_i n hlen
    split at h
    · cases h
    · rename_i xs hxs
      have hlo := lenOf_sound hX hlen
      obtain ⟨news, n1, n2, n3, n4⟩ := src_sound (P := P) hX (hL.mono (fun j hj => by simp [hj])) hxs
      split at h
      · rename_i ao len cap
        split at h
        · -- nothing is appended
          rename_i h0
          subst h0
          simp only [Option.some.injEq, Prod.mk.injEq] at h
          obtain ⟨rfl, rfl, rfl⟩ := h
          have hne : news = [] := List.eq_nil_of_length_eq_zero (by simpa using n4)
          subst hne
          obtain ⟨A, C, rfl, hle⟩ : ∃ A C, S = .slice A len C ∧ len ≤ C := by
            cases hS with
            | nilslice => exact ⟨_, _, rfl, Nat.le_refl _⟩
            | empty A c => exact ⟨_, _, rfl, Nat.zero_le _⟩
            | slice _ _ _ l c h1 h2 h3 => exact ⟨_, _, rfl, h2⟩
            | slicec _ _ _ l c h1 h2 => exact ⟨_, _, rfl, h2⟩
          have hr := app_room (P := P) (w := w) hu hsi hn hlo (n1 w rfl) A len C (by omega) ty
          refine ⟨ι, .slice A len C, w, ?_, hS, MStep.same⟩
          rw [hr]
          cases A <;> simp [storeCells]
        · rename_i h0
          split at h
          · rename_i hb
            obtain ⟨hsz, hby, hbound⟩ := hb
            -- a block anew
            have anew : ∀ (base : Option Addr) (C : Nat) (olds : List Value) (os : List AV), C < len + n → VRelL ι os olds → Ones olds → olds.length = len * i.size →
                (∀ w', w'.heap = w.heap → (Builtin.firstCells i.size len (.slice base len C)).run P w' = .ok olds.toArray w') →
                ∃ w' cs cp, (Builtin.append_ #[t, u] ty #[.slice base len C, X]).run P w = .ok (.slice (some ⟨w.heap.size, 0, none⟩) (len + n) cp) w' ∧ w' = w.drew.alloc (.cells cs e) ∧ len + n ≤ cp ∧ cs.size = cp * i.size ∧
                  VRelL ι (os ++ xs) (cs.toList.take (os ++ xs).length) ∧ Ones (cs.toList.take (os ++ xs).length) ∧ (os ++ xs).length ≤ cs.size := by
              intro base C olds os hC ho1 ho2 ho3 hof
              have hr := app_grow (P := P) (w := w) hu hi hz hn hlo (fun w' hw' => n1 w' hw') base len C hof hC hbound hby ty
              have hge := grownCap_ge w (len + n) C e
              have hl : (os ++ xs).length = (olds ++ news).length := by simp [ho1.1, n2.1]
              have hcs : (olds.toArray ++ news.toArray ++ Builtin.zeroCells z.cells (grownCap w (len + n) C e - (len + n))).size = grownCap w (len + n) C e * i.size := by
                simp only [Array.size_append, List.size_toArray, zc_len, hzs, ho3, n4, ← Nat.add_mul]
                congr 1; omega
              have htk : (olds.toArray ++ news.toArray ++ Builtin.zeroCells z.cells (grownCap w (len + n) C e - (len + n))).toList.take (os ++ xs).length = olds ++ news := by
                rw [hl]; simp only [Array.toList_append]; exact List.take_left
              refine ⟨_, _, _, hr, rfl, hge, hcs, ?_, ?_, ?_⟩
              · rw [htk]; exact ho1.append n2
              · rw [htk]; exact ho2.append n3
              · rw [hcs, hl]; simp only [List.length_append, ho3, n4, ← Nat.add_mul]
                exact Nat.mul_le_mul_right _ hge
            split at h
            · -- nil
              split at h
              · rename_i hnil
                obtain ⟨rfl, rfl⟩ := hnil
                simp only [Option.some.injEq, Prod.mk.injEq] at h
                obtain ⟨rfl, rfl, rfl⟩ := h
                have hι := hι (by simp [newRow])
                cases hS with
                | nilslice =>
                  obtain ⟨w', cs, cp, r1, rfl, r2, r3, r4, r5, r6⟩ := anew none 0 [] [] (by omega) (VRelL.nil ι) Ones.nil (by simp) (fun w' _ => by simp [Builtin.firstCells])
                  simp only [List.nil_append, Nat.zero_add] at r1 r2 r4 r5 r6
                  refine ⟨updM ι H.length ⟨w.heap.size, 0, cp⟩, _, _, r1, .slice _ 0 n ⟨w.heap.size, 0, cp⟩ cp (by simp [updM]) r2 (fun _ => rfl), ?_⟩
                  exact MStep.new (r := ⟨xs, true, i.size⟩) (fr := (0, 0)) ⟨rfl, rfl, rfl, rfl⟩ hι r6 r4 r5 (fun _ => ⟨rfl, fun _ => r3⟩)
              · cases h
            · rename_i ri o
              split at h
              · cases h
              · rename_i r hr
                split at h
                · -- a capacity that is known
                  rename_i c
                  split at h
                  · rename_i hc
                    simp only [Option.some.injEq, Prod.mk.injEq] at h
                    obtain ⟨rfl, rfl, rfl⟩ := h
                    have hι := hι (by simp [newRow])
                    cases hS with
                    | slicec _ _ _ l _ hl hle =>
                      obtain ⟨vs, v1, v2, v3, v4⟩ := row_cells (hL ri (by simp [idOf]) r hr l hl) o (len * i.size) hc.2
                      obtain ⟨w', cs, cp, r1, rfl, r2, r3, r4, r5, r6⟩ := anew (some (l.at o)) c vs _ hc.1 v1 v2 v3 (fun w' hw' => run_firstCells_some w' i.size len (l.at o) len c vs v3 fun j v hv => by
                        have := v4 j v hv; simpa [World.cell?, hw'] using this)
                      refine ⟨updM ι H.length ⟨w.heap.size, 0, cp⟩, _, _, r1, .slice _ 0 _ ⟨w.heap.size, 0, cp⟩ cp (by simp [updM]) r2 (fun _ => rfl), ?_⟩
                      exact MStep.new (r := ⟨_, true, i.size⟩) (fr := (0, 0)) ⟨rfl, rfl, rfl, rfl⟩ hι r6 r4 r5 (fun _ => ⟨rfl, fun _ => r3⟩)
                  · cases h
                · split at h
                  · rename_i hown
                    obtain ⟨ho, rfl, hrs, hle⟩ := hown
                    cases hS with
                    | slice _ _ _ l C hl hlc h00 =>
                      have hCl := h00 rfl
                      subst hCl
                      have hok := hL ri (by simp [idOf]) r hr l hl
                      have hok0 := hok
                      obtain ⟨cs, e', fr, g1, g2, g3, g4, g5⟩ := hok0
                      obtain ⟨hb0, hfr, hcap⟩ := g5 ho
                      have hcs := hcap (by omega)
                      rw [hrs] at hcs
                      subst hfr
                      split at h
                      · -- over cells that are known
                        rename_i hfit
                        simp only [Option.some.injEq, Prod.mk.injEq] at h
                        obtain ⟨rfl, rfl, rfl⟩ := h
                        have hroom : len + n ≤ l.cap := by
                          have : (len + n) * i.size ≤ l.cap * i.size := by omega
                          exact Nat.le_of_mul_le_mul_right this hsz
                        have hx : len * i.size + xs.length ≤ r.cells.length := by
                          have := n2.1; rw [Nat.add_mul] at hfit; omega
                        obtain ⟨w', q1, q2⟩ := MStep.write hr ho hl hok hx n2 n3 P
                        refine ⟨ι, .slice (some (l.at 0)) (len + n) l.cap, w', ?_, .slice _ 0 _ l _ hl hroom (fun _ => rfl), q2⟩
                        have hrun := app_room (P := P) (w := w) hu hsi hn hlo (n1 w rfl) (some (l.at 0)) len l.cap hroom ty
                        rw [hrun]
                        simp only [at_add, Nat.zero_add, q1, Result.andThen_ok]
                      · rename_i hfit
                        simp only [Option.some.injEq, Prod.mk.injEq] at h
                        obtain ⟨rfl, rfl, rfl⟩ := h
                        have hι := hι (by simp [newRow])
                        obtain ⟨vs, v1, v2, v3, v4⟩ := row_cells hok 0 (len * i.size) (by omega)
                        simp only [List.drop_zero] at v1
                        by_cases hroom : len + n ≤ l.cap
                        · -- into spare room
                          have hrun := app_room (P := P) (w := w) hu hsi hn hlo (n1 w rfl) (some (l.at 0)) len l.cap hroom ty
                          have hfitc : len * i.size + news.length ≤ cs.size := by
                            rw [hcs, n4, ← Nat.add_mul]; exact Nat.mul_le_mul_right _ hroom
                          have hst := run_storeCells_at P l.b (len * i.size) e' news 0 cs w g1 (by omega) n3
                          simp only [Nat.add_zero] at hst
                          have hat : (l.at 0).add (len * i.size) = ⟨l.b, len * i.size, none⟩ := by rw [at_add]; simp [Loc.at, hb0]
                          refine ⟨updM ι H.length ⟨l.b, 0, l.cap⟩, .slice (some (l.at 0)) (len + n) l.cap, w.setRow l.b (cs.toList.take (len * i.size) ++ news ++ cs.toList.drop (len * i.size + news.length)).toArray, ?_, ?_, ?_⟩
                          · rw [hrun]
                            simp only [hat, hst, Result.andThen_ok]
                          · have : (l.at 0) = (⟨l.b, 0, l.cap⟩ : Loc).at 0 := by simp [Loc.at, hb0]
                            rw [this]
                            exact .slice _ 0 _ ⟨l.b, 0, l.cap⟩ _ (by simp [updM]) hroom (fun _ => rfl)
                          · have hvs : vs = cs.toList.take (len * i.size) := by
                              apply List.ext_getElem?
                              intro j
                              by_cases hj : j < len * i.size
                              · obtain ⟨u, hu'⟩ : ∃ u, vs[j]? = some u := ⟨vs[j]'(by omega), List.getElem?_eq_getElem (by omega)⟩
                                have := v4 j u hu'
                                rw [cell_at l 0 j w cs e' _ g1, hb0] at this
                                rw [hu', List.getElem?_take, if_pos hj]
                                simpa using this.symm
                              · rw [List.getElem?_eq_none (by omega), List.getElem?_eq_none (by simp; omega)]
                            have hlx := n2.1
                            have hlt : (r.cells.take (len * i.size) ++ xs).length = (vs ++ news).length := by simp [v3, hlx]; omega
                            have htk : (cs.toList.take (len * i.size) ++ news ++ cs.toList.drop (len * i.size + news.length)).take (vs ++ news).length = vs ++ news := by
                              rw [← hvs]; exact List.take_left
                            refine MStep.grow (l := ⟨l.b, 0, l.cap⟩) hr ho hl hι (.inr rfl) ?_ (fun b hb hne => setRow_other w l.b b _ (fun e => hne e.symm)) (by simp) rfl rfl rfl
                            refine ⟨_, e', (0, 0), setRow_heap w l.b cs _ e' _ g1, ?_, ?_, ?_, fun _ => ⟨rfl, rfl, fun _ => ?_⟩⟩
                            · simp only [Nat.zero_add, hlt]; simp; omega
                            · simp only [List.drop_zero, hlt, htk]; exact (v1.append n2).mono (updM_ext hι)
                            · simp only [List.drop_zero, hlt, htk]; exact v2.append n3
                            · simp only [← hcs]; simp; omega
                        · -- a block anew
                          obtain ⟨w', cs', cp, r1, rfl, r2, r3, r4, r5, r6⟩ := anew (some (l.at 0)) l.cap vs _ (by omega) v1 v2 v3 (fun w' hw' => run_firstCells_some w' i.size len (l.at 0) len l.cap vs v3 fun j v hv => by
                            have := v4 j v hv; simpa [World.cell?, hw'] using this)
                          refine ⟨updM ι H.length ⟨w.heap.size, 0, cp⟩, _, _, r1, .slice _ 0 _ ⟨w.heap.size, 0, cp⟩ cp (by simp [updM]) r2 (fun _ => rfl), ?_⟩
                          refine MStep.grow (l := ⟨w.heap.size, 0, cp⟩) hr ho hl hι (.inl (Nat.le_refl _)) ?_ (fun b hb _ => heap_alloc_old w.drew _ b hb) (by simp) rfl rfl rfl
                          refine ⟨cs', e, (0, 0), heap_alloc_new w.drew _, by simpa using r6, by simpa using r4.mono (updM_ext hι), by simpa using r5, fun _ => ⟨rfl, rfl, fun _ => r3⟩⟩
                  · cases h
          · cases h
      · cases h

theorem m_copy {t u e : TypeId} {size : Nat} {d s v : AV} {D S : Value} {H' : AHeap} {wr : Option Nat} (hu : P.underlying t = some (.slice e)) (hsi : sizeIs P e size = true)
    (hD : VRel ι d D) (hS : VRel ι s S) (hL : LiveAt ι H w (idOf d ++ idOf s)) (h : copyA size H d s = some (v, H', wr)) (ty : TypeId) :
    ∃ ι' q w', (Builtin.copy_ #[t, u] ty #[D, S]).run P w = .ok q w' ∧ VRel ι' v q ∧ MStep ι ι' H H' wr w w' := by
  unfold copyA at h
  split at h
  · rename_i n ao len cap hlen
    split at h
    · cases h
    · rename_i xs hxs
      have hlo := lenOf_sound hS hlen
      obtain ⟨news, n1, n2, n3, n4⟩ := src_sound (P := P) hS (hL.mono (fun j hj => by simp [hj])) hxs
      have n1w := n1 w rfl
      have hmin : Nat.min n len = min n len := rfl
      split at h
      · split at h
        · rename_i h0
          simp only [Option.some.injEq, Prod.mk.injEq] at h
          obtain ⟨rfl, rfl, rfl⟩ := h
          have hne : news = [] := List.eq_nil_of_length_eq_zero (by rw [n4, h0]; simp)
          subst hne
          have n1z : (Builtin.firstCells size 0 S).run P w = .ok #[] w := by rw [← h0]; simpa using n1w
          refine ⟨ι, .int .i64 0, w, ?_, .int _ _, MStep.same⟩
          cases hD with
          | nilslice => simp [Builtin.copy_, run_underlying hu, hlo, run_sizeOf' hsi, n1z, goInt]
          | empty A c => simp [Builtin.copy_, run_underlying hu, hlo, run_sizeOf' hsi, n1z, goInt, storeCells]
        · cases h
      · rename_i ri o
        have fin : ∀ (l : Loc) (C : Nat), ι ri = some l → copyTo H ri o xs (min n len) = some (v, H', wr) →
            ∃ ι' q w', (Builtin.copy_ #[t, u] ty #[.slice (some (l.at o)) len C, S]).run P w = .ok q w' ∧ VRel ι' v q ∧ MStep ι ι' H H' wr w w' := by
          intro l C hl hh
          unfold copyTo at hh
          by_cases h0 : xs.length = 0
          · rw [if_pos h0] at hh
            simp only [Option.some.injEq, Prod.mk.injEq] at hh
            obtain ⟨rfl, rfl, rfl⟩ := hh
            have hne : news = [] := List.eq_nil_of_length_eq_zero (by rw [← n2.1]; exact h0)
            subst hne
            refine ⟨ι, _, w, ?_, .int .i64 (min n len : Nat), MStep.same⟩
            simp [Builtin.copy_, run_underlying hu, hlo, run_sizeOf' hsi, hmin, n1w, goInt, storeCells]
          · rw [if_neg h0] at hh
            unfold wrRow at hh
            cases hr : hOf H ri with
            | none => simp [hr] at hh
            | some r =>
              simp only [hr] at hh
              by_cases hle : r.own = true ∧ o + xs.length ≤ r.cells.length
              · rw [if_pos hle] at hh
                simp only [Prod.mk.injEq] at hh
                obtain ⟨rfl, rfl, rfl⟩ := hh
                obtain ⟨w', q1, q2⟩ := MStep.write hr hle.1 hl (hL ri (by simp [idOf]) r hr l hl) hle.2 n2 n3 P
                refine ⟨ι, _, w', ?_, .int .i64 (min n len : Nat), q2⟩
                simp [Builtin.copy_, run_underlying hu, hlo, run_sizeOf' hsi, hmin, n1w, goInt, q1]
              · rw [if_neg hle] at hh; simp at hh
        cases hD with
        | slice _ _ _ l C hl _ _ => exact fin l C hl h
        | slicec _ _ _ l C hl _ => exact fin l _ hl h
  · cases h

end Go.Proofs.Qq

/-
  Every operation on memory, by the check.
-/
namespace Go.Proofs.Qq

variable {P : Program} {ι : IM} {env : Env} {a : Act} {H : AHeap} {w : World}

theorem mgives_pure {s : Sem Value} {v : AV} (h : ∃ u, s.run P w = .ok u w ∧ VRel ι v u) : MGives P ι H w (do pure (.value (← s))) v H none := by
  obtain ⟨u, h1, h2⟩ := h
  exact mgives_of ⟨ι, u, w, h1, h2, MStep.same⟩

theorem builtin_mem (hE : EnvRel ι env a.tmps) {b : Builtin} {args : Array Operand} {ts : Array TypeId} {r : AOp} (hok : okBuiltin P b args.toList ts.toList r = true) {v : AV} {H' : AHeap} {wr : Option Nat}
    (hs : memStep env H r = some (v, H', wr)) (hι : H.length < H'.length → ι H.length = none) (hL : LiveAt ι H w (touchedA env r)) (ty : TypeId) (cs : Array Bool) : MGives P ι H w (builtin b ts ty cs (args.map a.eval)) v H' wr := by
  obtain ⟨args⟩ := args
  obtain ⟨ts⟩ := ts
  unfold okBuiltin at hok
  split at hok <;> simp only [memStep] at hs <;> try (cases hs; done)
  · rename_i s x t u size bytes s' x' h1 h2
    simp only at h1 h2
    subst h1; subst h2
    simp only [Bool.and_eq_true] at hok
    obtain ⟨⟨⟨hk, hn⟩, hs1⟩, hx1⟩ := hok
    split at hk
    · rename_i e hu
      split at hk
      · rename_i i hi
        simp only [Bool.and_eq_true, beq_iff_eq] at hk
        obtain ⟨⟨rfl, rfl⟩, hz⟩ := hk
        split at hz
        · rename_i z hz'
          simp only [beq_iff_eq] at hz
          have hn' : noInt (P.underlying u) = true := by
            unfold noInt
            split at hn
            · rename_i x h; simp [h]
            · rename_i h; simp [h]
            · cases hn
          have := m_append (P := P) hu hi hz' hz hn' (okOpd_sound hE hs1) (okOpd_sound hE hx1) hL hι hs ty
          simpa [builtin] using mgives_of this
        · cases hz
      · cases hk
    · cases hk
  · rename_i d s t u size d' s' h1 h2
    simp only at h1 h2
    subst h1; subst h2
    simp only [Bool.and_eq_true] at hok
    obtain ⟨⟨hk, hd1⟩, hs1⟩ := hok
    split at hk
    · rename_i e hu
      have := m_copy (P := P) (u := u) hu hk (okOpd_sound hE hd1) (okOpd_sound hE hs1) hL hs ty
      simpa [builtin] using mgives_of this
    · cases hk
  · rename_i x t zero y h1 h2
    simp only at h1 h2
    subst h1; subst h2
    simp only [Bool.and_eq_true] at hok
    obtain ⟨hk, hx⟩ := hok
    split at hk
    · rename_i e hu
      have := m_clear (P := P) hu hk (okOpd_sound hE hx) hL hs ty
      simpa [builtin] using mgives_of this
    · cases hk
  · cases hok

set_option maxHeartbeats 4000000 in
theorem mem_sound (hE : EnvRel ι env a.tmps) (o : Oper) {r : AOp} (hok : okOp P o.op r = true) {v : AV} {H' : AHeap} {wr : Option Nat}
    (hs : memStep env H r = some (v, H', wr)) (hι : H.length < H'.length → ι H.length = none) (hL : LiveAt ι H w (touchedA env r)) : MGives P ι H w (execOp a.eval o) v H' wr := by
  unfold okOp at hok
  split at hok <;> rename_i hop <;> simp only [memStep] at hs <;> try (cases hs; done)
  · -- []byte(s)
    simp only [Bool.and_eq_true] at hok
    obtain ⟨hk, hx⟩ := hok
    have hx := okOpd_sound hE hx
    split at hs
    · rename_i s hj
      rw [hj] at hx
      simp only [Option.some.injEq, Prod.mk.injEq] at hs
      obtain ⟨rfl, rfl, rfl⟩ := hs
      simp only [execOp, hop]
      generalize a.eval _ = X at hx
      cases hx
      split at hk
      · rename_i e h1 h2
        split at hk
        · rename_i h3
          exact mgives_of (m_s2b (hι (by simp)) h1 h2 h3)
        · cases hk
      · cases hk
    · cases hs
  · -- string(b)
    simp only [Bool.and_eq_true] at hok
    obtain ⟨hk, hx⟩ := hok
    have hx := okOpd_sound hE hx
    split at hs
    · rename_i u hj
      simp only [Option.some.injEq, Prod.mk.injEq] at hs
      obtain ⟨rfl, rfl, rfl⟩ := hs
      simp only [execOp, hop]
      split at hk
      · rename_i e h1 h2
        split at hk
        · rename_i h3
          exact mgives_pure (m_b2s h1 h2 h3 hx hL hj)
        · cases hk
      · cases hk
    · cases hs
  · -- alloc
    simp only [Option.some.injEq, Prod.mk.injEq] at hs
    obtain ⟨rfl, rfl, rfl⟩ := hs
    obtain ⟨z, z1, z2, z3, _⟩ := zero_sound (P := P) hok ι w
    simp only [execOp, hop]
    refine mgives_of ?_
    obtain ⟨ι', u, w', r1, r2, r3⟩ := m_var (P := P) (w := w) (e := _) (cs := z.cells) (hι (by simp [newRow])) z2 z3
    refine ⟨ι', u, w', ?_, r2, r3⟩
    simp only [Instr.alloc, Sem.run_bind, z1, Result.andThen_ok, newVar]
    simpa using r1
  · -- box
    split at hs
    · rename_i hnt
      simp only [Option.some.injEq, Prod.mk.injEq] at hs
      obtain ⟨rfl, rfl, rfl⟩ := hs
      have hx := okOpd_sound hE hok
      simp only [execOp, hop]
      refine mgives_of ?_
      obtain ⟨ι', u, w', r1, r2, r3⟩ := m_var (P := P) (w := w) (e := _) (cs := (a.eval _).cells) (hι (by simp [newRow])) hx.cells (hx.ones' hnt)
      exact ⟨ι', u, w', by simpa [Instr.box, newVar] using r1, r2, r3⟩
    · cases hs
  · -- a slice literal
    rename_i t len parts size len' zero parts'
    simp only [Bool.and_eq_true, beq_iff_eq] at hok
    obtain ⟨hk, rfl⟩ := hok
    split at hs
    · rename_i cs hf
      simp only [Option.some.injEq, Prod.mk.injEq] at hs
      obtain ⟨rfl, rfl, rfl⟩ := hs
      simp only [execOp, hop]
      split at hk
      · rename_i e hu
        simp only [Bool.and_eq_true, decide_eq_true_eq] at hk
        obtain ⟨⟨⟨k1, k2⟩, k3⟩, k4⟩ := hk
        exact mgives_of (m_bslice hE (hι (by simp [newRow])) hu k1 k2 k3 k4 hf)
      · cases hk
    · cases hs
  · -- make
    simp only [Bool.and_eq_true] at hok
    obtain ⟨⟨hk, hl⟩, hc⟩ := hok
    have hl := okOpd_sound hE hl
    have hc := okOpd_sound hE hc
    split at hs
    · rename_i l c h1 h2
      rw [h1] at hl; rw [h2] at hc
      split at hs
      · rename_i hb
        simp only [Option.some.injEq, Prod.mk.injEq] at hs
        obtain ⟨rfl, rfl, rfl⟩ := hs
        simp only [execOp, hop]
        generalize a.eval _ = L at hl
        generalize a.eval _ = C at hc
        cases hl; cases hc
        split at hk
        · rename_i e hu
          simp only [Bool.and_eq_true, beq_iff_eq] at hk
          obtain ⟨⟨k1, k2⟩, k3⟩ := hk
          exact mgives_of (m_mkslice (hι (by simp [newRow])) hu k1 k2 k3 hb)
        · cases hk
      · cases hs
    · cases hs
  · -- load
    rename_i t x agg size y
    simp only [Bool.and_eq_true] at hok
    obtain ⟨⟨ha, hsz⟩, hx⟩ := hok
    have hx := okOpd_sound hE hx
    split at hs
    · rename_i u hu
      simp only [Option.some.injEq, Prod.mk.injEq] at hs
      obtain ⟨rfl, rfl, rfl⟩ := hs
      simp only [execOp, hop]
      obtain ⟨A, hA⟩ : ∃ A, a.eval x = .pointer (some A) := by
        have hu' := hu
        unfold loadA ptrAt at hu'
        generalize a.eval x = X at hx
        generalize ev env y = Y at hx hu'
        cases hx with
        | ptr i o l h => exact ⟨_, rfl⟩
        | _ => simp at hu'
      rw [hA] at hx ⊢
      obtain ⟨q, q1, q2, _⟩ := load_sound (P := P) ha hsz hx hL hu
      exact mgives_pure ⟨q, by simp only [Instr.loadAt, Instr.sureAddr, Sem.run_bind, Sem.run_pure, Result.andThen_ok, q1], q2⟩
    · cases hs
  · -- store
    rename_i t x z size y z'
    simp only [Bool.and_eq_true] at hok
    obtain ⟨⟨hsz, hx⟩, hz⟩ := hok
    have hx := okOpd_sound hE hx
    have hz := okOpd_sound hE hz
    simp only [touchedA] at hL
    split at hs
    · rename_i i p hj
      rw [hj] at hx hL
      split at hs
      · rename_i hc
        split at hs
        · rename_i H1 hw
          simp only [Option.some.injEq, Prod.mk.injEq] at hs
          obtain ⟨rfl, rfl, rfl⟩ := hs
          obtain ⟨w', q1, q2⟩ := m_store (P := P) hsz hx hz (by simpa [idOf] using hL) hc hw
          refine ⟨ι, Go.undef, w', .inr ⟨?_, rfl⟩, VRel.undef ι, q2⟩
          simp only [execOp, hop, Sem.run_bind, q1, Result.andThen_ok, Sem.run_pure]
        · cases hs
      · cases hs
    · cases hs
  · -- a call of a builtin
    rename_i r c
    split at hok
    · rename_i b hc
      have := builtin_mem (P := P) hE hok hs hι hL o.type (c.args.map fun | .const _ => true | _ => false)
      obtain ⟨ι', u, w', q1, q2, q3⟩ := this
      refine ⟨ι', u, w', ?_, q2, q3⟩
      rw [call_builtin a.eval o c b hop hc w]
      exact q1
    · cases hs
    · cases hok
  · cases hok

theorem mem_writes {r : AOp} {v : AV} {H' : AHeap} {j : Nat} (hs : memStep env H r = some (v, H', some j)) : j ∈ writesA env r ∧ j ∈ touchedA env r := by
  cases r <;> simp only [memStep] at hs <;> try (cases hs; done)
  · split at hs
    · cases hs
    · cases hs
  · split at hs <;> cases hs
  · split at hs
    · split at hs <;> cases hs
    · cases hs
  · split at hs <;> cases hs
  · split at hs
    · rename_i h
      split at hs
      · split at hs
        · simp only [Option.some.injEq, Prod.mk.injEq] at hs
          obtain ⟨_, _, rfl⟩ := hs
          simp [writesA, touchedA, idOf, h]
        · cases hs
      · cases hs
    · cases hs
  · rename_i size bytes s x
    unfold appendA at hs
    split at hs
    · cases hs
    · split at hs
      · cases hs
      · split at hs
        · rename_i h
          split at hs
          · cases hs
          · split at hs
            · split at hs
              · split at hs <;> cases hs
              · split at hs
                · cases hs
                · split at hs
                  · split at hs <;> cases hs
                  · split at hs
                    · split at hs
                      · simp only [Option.some.injEq, Prod.mk.injEq] at hs
                        obtain ⟨_, _, rfl⟩ := hs
                        simp [writesA, touchedA, idOf, h]
                      · simp only [Option.some.injEq, Prod.mk.injEq] at hs
                        obtain ⟨_, _, rfl⟩ := hs
                        simp [writesA, touchedA, idOf, h]
                    · cases hs
            · cases hs
        · cases hs
  · unfold copyA at hs
    split at hs
    · rename_i h
      split at hs
      · cases hs
      · split at hs
        · split at hs <;> cases hs
        · unfold copyTo at hs
          split at hs
          · cases hs
          · split at hs
            · simp only [Option.some.injEq, Prod.mk.injEq] at hs
              obtain ⟨_, _, rfl⟩ := hs
              simp [writesA, touchedA, idOf, h]
            · cases hs
    · cases hs
  · unfold clearA at hs
    split at hs
    · rename_i h
      split at hs
      · cases hs
      · split at hs
        · cases hs
        · split at hs
          · simp only [Option.some.injEq, Prod.mk.injEq] at hs
            obtain ⟨_, _, rfl⟩ := hs
            simp [writesA, touchedA, idOf, h]
          · cases hs
    · cases hs
  · split at hs <;> cases hs
  · split at hs <;> cases hs

end Go.Proofs.Qq

