/- The abstract machine: values, code, evaluation. Nothing is claimed here; the machine's soundness stands in other texts. -/
import GoSem.Dispatch
import Derived.Calls
import Derived.Laws.World
import Derived.Laws.Sem
import Derived.Laws.Entries
set_option linter.unusedSimpArgs false
set_option linter.unusedVariables false
set_option linter.unusedSectionVars false
set_option linter.unnecessarySimpa false
section
namespace Am
open Go

inductive Perm where
  | ro | full | nil | tok (s : Nat)
  deriving DecidableEq, Repr

inductive AV where
  | junk
  | bool (b : Bool)
  | int (k : IntKind) (n : Int)
  | str (s : List UInt8)
  | nilptr
  | ptr (n off : Nat)
  | eptr (cs : List AV) (off : Nat)
  | sdata (xs : List AV) (p : Perm)
  | optr (s i off : Nat)
  | slice (xs : List AV) (p : Perm)
  | oslice (s len : Nat)
  | iface (t : Nat) (v : AV)
  | nilIface
  | func (f : Nat) (caps : List AV)
  | yield (l : Nat)
  | nilFunc
  | agg (cs : List AV)
  | tup (vs : List AV)
  | map (n : Nat)
  | iter (n : Nat)
  | hdl (t : Nat)
  | sent (i : Nat)

instance : Inhabited AV := ⟨.junk⟩

inductive AO where
  | t (i : Nat)
  | c (v : AV)

inductive CK where
  | toInt (k : IntKind) | i2s | s2b | b2s | same

inductive EK where
  | prim | ptr | iface (ok : List Nat) | cells (ks : List Nat)

inductive AOp where
  | mv (x : AO)
  | pick (c a b : AO)
  | alloc (ty : Nat) (z : List AV)
  | box (ty : Nat) (x : AO)
  | build (z : List AV) (ps : List (Nat × Nat × AO))
  | bslice (own agg : Bool) (n sz : Nat) (z : List AV) (ps : List (Nat × Nat × AO))
  | load (agg : Bool) (sz : Nat) (x : AO)
  | store (sz : Nat) (x v : AO)
  | nilck (x : AO)
  | bin (op : BinOp) (x y : AO)
  | eq (neg : Bool) (k : EK) (lit : Bool) (x y : AO)
  | un (op : UnOp) (x : AO)
  | conv (k : CK) (x : AO)
  | mkif (t : Nat) (x : AO)
  | mkfn (f : Nat) (caps : List AO)
  | mkmap
  | insert (kk : Nat) (m k v : AO)
  | mkslice (sz bytes : Nat) (z : List AV) (len cap : AO)
  | slice (str : Bool) (sz : Nat) (x : AO) (lo hi mx : Option AO)
  | faddr (off : Nat) (x : AO)
  | field (off : Nat) (agg : Bool) (sz : Nat) (x : AO)
  | iaddr (arr : Option Nat) (sz : Nat) (x i : AO)
  | index (arr : Option (Nat × Nat × Bool)) (x i : AO)
  | lookup (kk : Nat) (z : AV) (ok : Bool) (m k : AO)
  | range (x : AO)
  | next (x : AO)
  | assertI (nt : Nat) (yes : List Nat) (z : AV) (ok : Bool) (x : AO)
  | assertC (t : Nat) (z : AV) (ok : Bool) (x : AO)
  | extract (i : Nat) (x : AO)
  | call (f : Nat) (args : List AO)
  | callV (x : AO) (args : List AO)
  | invoke (tab : List (Nat × Nat × Option Nat)) (x : AO) (args : List AO)
  | append (el sz bytes : Nat) (s x : AO)
  | len (str : Bool) (x : AO)
  | cap (x : AO)
  | min2 (mx : Bool) (x y : AO)
  | sdata (x : AO)
  | ustr (el : Nat) (p n : AO)
  | defer (x : AO) (args : List AO)
  | bad

structure AOper where
  dst : Option Nat
  op : AOp
  guard : Option (Nat × Bool)
  conf : List Nat

inductive ACode where
  | skip
  | region (draw : Bool) (ops : List AOper)
  | seq (a b : ACode)
  | cond (c : AO) (thn els : ACode)
  | block (id : Nat) (body : ACode)
  | loop (body : ACode)
  | rfunc (f : AO) (params : List Nat) (assign body : ACode)
  | exit (id : Nat)
  | scope (body : ACode)
  | ret
  | bad

inductive ARes where
  | tmp (i : Nat)
  | cell (i : Nat) (agg : Bool) (sz : Nat)

inductive AFun where
  | code (ntmps : Nat) (res : List ARes) (body : ACode)
  | prim (p : Nat)

inductive Ex where
  | norm | exit (id : Nat) | ret
  deriving DecidableEq, Repr

inductive LState where
  | ready | busy | done
  deriving DecidableEq, Repr

abbrev Env := List AV

inductive Obj where
  | dead
  | cells (ty : Nat) (cs : List AV)
  | laid (k : Nat)
  | amap (es : List (AV × AV))
  | siter (s : List UInt8) (pos : Nat)
  | loop (env : Env) (params : List Nat) (assign body : ACode) (st : LState) (pending : Option Ex)

inductive SObj where
  | perm (e : Nat)
  | arr (sz : Nat) (xs : List AV)

inductive Loc where
  | b (n : Nat) | s (n : Nat)
  deriving DecidableEq, Repr

structure Heap where
  boxes : List Obj
  nb : Nat
  ns : Nat
  live : List (Nat × SObj)
  base : Nat
  sbase : Nat
  t : List Loc
  w : List Loc

inductive AD where
  | mark
  | call (f : Nat) (args : List AV)

structure St where
  env : Env
  ds : List AD
  h : Heap

inductive Tgt where
  | fn (f : Nat)
  | yield (l : Nat)

abbrev CallF := Tgt → List AV → Heap → Option (AV × Heap)

structure AProg where
  codes : Nat → Option AFun
  keep : Nat → Bool
  G : Nat
  prims : Nat → List AV → Heap → Option (AV × Heap)

def AProg.isCode (Q : AProg) (f : Nat) : Bool := match Q.codes f with
  | some (.code ..) => true
  | _ => false

/-! ### environments -/

def Env.get (e : Env) (i : Nat) : AV := List.getD e i .junk

def Env.set : Env → Nat → AV → Env
  | [], 0, v => [v]
  | [], i + 1, v => .junk :: Env.set [] i v
  | _ :: e, 0, v => v :: e
  | x :: e, i + 1, v => x :: Env.set e i v

def AO.ev (e : Env) : AO → AV
  | .t i => e.get i
  | .c v => v

def setMany (e : Env) : List Nat → List AV → Env
  | i :: is, v :: vs => setMany (e.set i v) is vs
  | _, _ => e

/-! ### heaps -/

def Heap.get (h : Heap) (n : Nat) : Option Obj := if n < h.nb then h.boxes[h.nb - 1 - n]? else none

def Heap.push (h : Heap) (o : Obj) : Heap := { h with boxes := o :: h.boxes, nb := h.nb + 1 }

def Heap.put (h : Heap) (n : Nat) (o : Obj) : Heap := { h with boxes := h.boxes.set (h.nb - 1 - n) o }

def Heap.rd (h : Heap) (n : Nat) : Heap := if n < h.base then { h with t := .b n :: h.t } else h
def addL (l : Loc) (w : List Loc) : List Loc := if w.contains l then w else l :: w
def Heap.wr (h : Heap) (n : Nat) : Heap := if n < h.base then { h with t := .b n :: h.t, w := addL (.b n) h.w } else h
def Heap.rdS (h : Heap) (n : Nat) : Heap := if n < h.sbase then { h with t := .s n :: h.t } else h
def Heap.wrS (h : Heap) (n : Nat) : Heap := if n < h.sbase then { h with t := .s n :: h.t, w := addL (.s n) h.w } else h

def Heap.slot (h : Heap) (s : Nat) : Option SObj := h.live.lookup s
def Heap.unslot (h : Heap) (s : Nat) : Heap := { h with live := h.live.filter fun p => p.1 != s }
def Heap.newSlot (h : Heap) (o : SObj) : Heap := { h with live := (h.ns, o) :: h.live, ns := h.ns + 1 }

/-! ### values -/

def AV.cells? : AV → Option (List AV)
  | .agg cs => some cs
  | .tup _ => none
  | .junk => none
  | v => some [v]

def AV.scalar : AV → Bool
  | .agg _ | .tup _ | .junk => false
  | _ => true

def AV.flatOk (x : AV) : Bool := match x.cells? with
  | some cs => cs.all AV.scalar
  | none => false

def AV.ncells : AV → Nat
  | .agg cs => cs.length
  | _ => 1

mutual
def AV.strip : AV → AV
  | .slice xs _ => .slice xs .ro
  | .agg cs => .agg (stripL cs)
  | .tup cs => .tup (stripL cs)
  | .iface t v => .iface t v.strip
  | v => v
def stripL : List AV → List AV
  | [] => []
  | v :: vs => v.strip :: stripL vs
end

mutual
/-- no name of a box from B on, no permission from S on -/
def AV.nf (B S : Nat) : AV → Bool
  | .junk | .bool _ | .int _ _ | .str _ | .nilptr | .nilIface | .nilFunc | .hdl _ | .sent _ => true
  | .ptr n _ | .map n | .iter n | .yield n => n < B
  | .eptr _ _ => true
  | .sdata _ (.tok s) => s < S
  | .sdata _ _ => true
  | .optr s _ _ | .oslice s _ => s < S
  | .slice _ (.tok s) => s < S
  | .slice _ _ => true
  | .iface _ v => v.nf B S
  | .func _ cs => nfL B S cs
  | .agg cs => nfL B S cs
  | .tup cs => nfL B S cs
def nfL (B S : Nat) : List AV → Bool
  | [] => true
  | v :: vs => v.nf B S && nfL B S vs
end

def Obj.nf (B S : Nat) : Obj → Bool
  | .dead => true
  | .laid _ => true
  | .cells _ cs => nfL B S cs
  | .amap es => es.all fun e => e.1.nf B S && e.2.nf B S
  | .siter _ _ => true
  | .loop env _ _ _ _ _ => nfL B S env

def cellAt (agg : Bool) (sz : Nat) (cs : List AV) (off : Nat) : Option AV :=
  if agg then (if off + sz ≤ cs.length then some (.agg ((cs.drop off).take sz)) else none) else cs[off]?

def putCells : List AV → Nat → List AV → List AV
  | cs, _, [] => cs
  | cs, off, v :: vs => putCells (cs.set off v) (off + 1) vs

/-- the cells of a struct or of an array's row, filled with parts -/
def fillA (e : Env) : List AV → List (Nat × Nat × AO) → Option (List AV)
  | cs, [] => some cs
  | cs, (off, sz, x) :: ps =>
    match (x.ev e).cells? with
    | some vs => if vs.length = sz ∧ off + sz ≤ cs.length then fillA e (putCells cs off vs) ps else none
    | none => none

def asBool : AV → Option Bool
  | .bool b => some b
  | _ => none

def binInt (op : BinOp) (k : IntKind) (x y : Int) : Option AV :=
  match op with
  | .add => some (.int k (k.wrap (x + y)))
  | .sub => some (.int k (k.wrap (x - y)))
  | .mul => some (.int k (k.wrap (x * y)))
  | .quo => if y = 0 then none else some (.int k (k.wrap (x.tdiv y)))
  | .rem => if y = 0 then none else some (.int k (x.tmod y))
  | .and => some (.int k (k.wrap (BitVec.ofInt k.bits x &&& BitVec.ofInt k.bits y).toNat))
  | .or => some (.int k (k.wrap (BitVec.ofInt k.bits x ||| BitVec.ofInt k.bits y).toNat))
  | .xor => some (.int k (k.wrap (BitVec.ofInt k.bits x ^^^ BitVec.ofInt k.bits y).toNat))
  | .andNot => some (.int k (k.wrap (BitVec.ofInt k.bits x &&& ~~~(BitVec.ofInt k.bits y)).toNat))
  | .eql => some (.bool (x == y))
  | .neq => some (.bool (x != y))
  | .lss => some (.bool (x < y))
  | .leq => some (.bool (x ≤ y))
  | .gtr => some (.bool (x > y))
  | .geq => some (.bool (x ≥ y))
  | _ => none

def bytesLess : List UInt8 → List UInt8 → Bool
  | _, [] => false
  | [], _ :: _ => true
  | a :: x, b :: y => a < b || (a == b && bytesLess x y)

def binA (op : BinOp) (x y : AV) : Option AV :=
  match op, x, y with
  | .shl, .int k a, .int _ b => if b < 0 then none else some (.int k (k.wrap (a * 2 ^ (min b.toNat k.bits))))
  | .shr, .int k a, .int _ b => if b < 0 then none else some (.int k (a.fdiv (2 ^ (min b.toNat k.bits))))
  | op, .int k a, .int k' b => if k = k' then binInt op k a b else none
  | .add, .str a, .str b => if ((a.length + b.length : Nat) : Int) > IntKind.i64.max then none else some (.str (a ++ b))
  | .eql, .str a, .str b => some (.bool (a == b))
  | .neq, .str a, .str b => some (.bool (!(a == b)))
  | .lss, .str a, .str b => some (.bool (bytesLess a b))
  | .leq, .str a, .str b => some (.bool (bytesLess a b || a == b))
  | .gtr, .str a, .str b => some (.bool (!(bytesLess a b || a == b)))
  | .geq, .str a, .str b => some (.bool (!(bytesLess a b)))
  | _, _, _ => none

def unA (op : UnOp) (x : AV) : Option AV :=
  match op, x with
  | .not, .bool b => some (.bool (!b))
  | .neg, .int k n => some (.int k (k.wrap (0 - n)))
  | _, _ => none

/-- truths (0), numbers (1), texts (2) -/
def eqK : Nat → AV → AV → Option Bool
  | 0, .bool a, .bool b => some (a == b)
  | 1, .int k a, .int k' b => if k = k' then some (a == b) else none
  | 2, .str a, .str b => some (a == b)
  | _, _, _ => none

def eqPtr : AV → AV → Option Bool
  | .nilptr, .nilptr => some true
  | .nilptr, .ptr _ _ => some false
  | .ptr _ _, .nilptr => some false
  | .ptr n o, .ptr m p => some (n == m && o == p)
  | .nilptr, .sent _ => some false
  | .sent _, .nilptr => some false
  | .sent i, .sent j => some (i == j)
  | _, _ => none

/-- interfaces: kinds apart; of one kind pointers alone -/
def eqIface (ok : List Nat) (lit : Bool) : AV → AV → Option Bool
  | .nilIface, .nilIface => if lit then some true else none
  | .nilIface, .iface _ _ => some false
  | .iface _ _, .nilIface => some false
  | .iface t v, .iface u w => if t = u then (if ok.contains t then eqPtr v w else none) else some false
  | _, _ => none

def eqCells : List Nat → List AV → List AV → Option Bool
  | [], [], [] => some true
  | k :: ks, x :: xs, y :: ys =>
    match eqK k x y with
    | some true => eqCells ks xs ys
    | some false => (eqCells ks xs ys).map fun _ => false
    | none => none
  | _, _, _ => none

def eqA (k : EK) (lit : Bool) (x y : AV) : Option Bool :=
  match k with
  | .prim => eqK 0 x y
  | .ptr => eqPtr x y
  | .iface ok => eqIface ok lit x y
  | .cells ks => match x, y with
    | .agg xs, .agg ys => eqCells ks xs ys
    | _, _ => none

def byteA (b : UInt8) : AV := .int .u8 b.toNat

def unbyte : AV → Option UInt8
  | .int .u8 n => if 0 ≤ n ∧ n < 256 then some (UInt8.ofNat n.toNat) else none
  | _ => none

def unbytes : List AV → Option (List UInt8)
  | [] => some []
  | v :: vs => match unbyte v, unbytes vs with
    | some b, some bs => some (b :: bs)
    | _, _ => none

def encodeA (n : Int) : List UInt8 := (Utf8.encode n).data.toList

/-- decode at the head of a text -/
def decodeA (s : List UInt8) : Nat × Nat :=
  let b (k : Nat) : Nat := (s.getD k 0).toNat
  let cont (k : Nat) : Bool := k < s.length && b k / 64 == 2
  let b0 := b 0
  if b0 < 0x80 then (b0, 1)
  else if b0 / 32 == 6 && cont 1 then
    let c := (b0 % 32) * 64 + b 1 % 64
    if c ≥ 0x80 then (c, 2) else (0xFFFD, 1)
  else if b0 / 16 == 14 && cont 1 && cont 2 then
    let c := (b0 % 16) * 4096 + (b 1 % 64) * 64 + b 2 % 64
    if c ≥ 0x800 && Utf8.valid c then (c, 3) else (0xFFFD, 1)
  else if b0 / 8 == 30 && cont 1 && cont 2 && cont 3 then
    let c := (b0 % 8) * 262144 + (b 1 % 64) * 4096 + (b 2 % 64) * 64 + b 3 % 64
    if c ≥ 0x10000 && Utf8.valid c then (c, 4) else (0xFFFD, 1)
  else (0xFFFD, 1)

/-- elements must all have so many cells: asked of the head alone -/
def headOk (sz : Nat) : List AV → Bool
  | [] => true
  | x :: _ => x.ncells == sz

/-- bounds of a slice expression: low, high, max -/
def sliceB (len cap : Nat) (lo hi mx : Option AV) : Option (Nat × Nat × Option Nat) :=
  let num : Option AV → Option (Option Nat)
    | none => some none
    | some (.int _ n) => if 0 ≤ n then some (some n.toNat) else none
    | some _ => none
  match num lo, num hi, num mx with
  | some l, some h, some m =>
    let l := l.getD 0
    match h, m with
    | some h, some m => if m ≤ cap ∧ h ≤ m ∧ l ≤ h then some (l, h, some m) else none
    | some h, none => if h ≤ cap ∧ l ≤ h then some (l, h, none) else none
    | none, none => if l ≤ len then some (l, len, none) else none
    | none, some _ => none
  | _, _, _ => none

def findKey (kk : Nat) (k : AV) : List (AV × AV) → Option (Option AV)
  | [] => some none
  | (k', v) :: es => match eqK kk k k' with
    | some true => some (some v)
    | some false => findKey kk k es
    | none => none

/-- the elements of a row of cells -/
def elemsOf (agg : Bool) (n sz : Nat) (cs : List AV) : List AV :=
  (List.range n).map fun i => if agg then .agg ((cs.drop (i * sz)).take sz) else cs.getD (i * sz) .junk

/-! ### operations -/

def argsOf (e : Env) (as : List AO) : List AV := as.map fun a => a.ev e

def appendA (G el sz bytes : Nat) (s : AV) (ys : List AV) (h : Heap) : Option (AV × Heap) :=
  let ys := stripL ys
  if headOk sz ys && nfL G 0 ys && ys.all AV.flatOk then
    match s with
    | .slice xs p =>
      if ys.isEmpty then some (.slice xs p, h) else
      if headOk sz xs && decide ((xs.length + ys.length) * bytes ≤ 140737488355328) then
        match p with
        | .full | .nil => some (.slice (xs ++ ys) (.tok h.ns), h.newSlot (.perm el))
        | .tok n => match h.slot n with
          | some (.perm el') =>
            if el' = el then
              let h := (h.wrS n).unslot n
              some (.slice (xs ++ ys) (.tok h.ns), h.newSlot (.perm el))
            else none
          | _ => none
        | .ro => none
      else none
    | .oslice n len => match h.slot n with
      | some (.arr sz' xs) =>
        if sz' == sz && decide (len ≤ xs.length) && decide ((len + ys.length) * bytes ≤ 140737488355328) then
          let h := (h.wrS n).unslot n
          some (.oslice h.ns (len + ys.length), h.newSlot (.arr sz (xs.take len ++ ys)))
        else none
      | _ => none
    | _ => none
  else none

def recvA (m : Option Nat) (v : AV) : Option AV :=
  match m with
  | none => some v
  | some off => match v with
    | .agg cs => cs[off]?
    | _ => none

def opA (Q : AProg) (K : CallF) (op : AOp) (e : Env) (h : Heap) : Option (AV × Heap) :=
  match op with
  | .mv x => some (x.ev e, h)
  | .pick c a b => match c.ev e with
    | .bool t => some (if t then a.ev e else b.ev e, h)
    | _ => none
  | .alloc ty z => some (.ptr h.nb 0, h.push (.cells ty z))
  | .box ty x => match (x.ev e).cells? with
    | some cs => some (.ptr h.nb 0, h.push (.cells ty cs))
    | none => none
  | .build z ps => match fillA e z ps with
    | some cs => some (.agg cs, h)
    | none => none
  | .bslice own agg n sz z ps => match fillA e z ps with
    | some cs =>
      let xs := stripL (elemsOf agg n sz cs)
      if nfL Q.G 0 xs && (agg || xs.all AV.scalar) then
        if own then some (.oslice h.ns n, h.newSlot (.arr sz xs)) else some (.slice xs .full, h)
      else none
    | none => none
  | .load agg sz x => match x.ev e with
    | .ptr n off => match h.get n with
      | some (.cells _ cs) => match cellAt agg sz cs off with
        | some v => some (v, h.rd n)
        | none => none
      | _ => none
    | .eptr cs off => match cellAt agg sz cs off with
      | some v => some (v, h)
      | none => none
    | .optr s i off => match h.slot s with
      | some (.arr _ xs) => match (xs.getD i .junk).cells? with
        | some cs => match cellAt agg sz cs off with
          | some v => some (v, h.rdS s)
          | none => none
        | none => none
      | _ => none
    | _ => none
  | .store sz x v => match x.ev e, (v.ev e).cells? with
    | .ptr n off, some vs => match h.get n with
      | some (.cells ty cs) =>
        if vs.length = sz ∧ off + sz ≤ cs.length ∧ vs.all AV.scalar ∧ Q.G ≤ n then
          some (.tup [], (h.wr n).put n (.cells ty (putCells cs off vs)))
        else none
      | _ => none
    | _, _ => none
  | .nilck x => match x.ev e with
    | .ptr n off => some (.ptr n off, h)
    | .eptr cs off => some (.eptr cs off, h)
    | .func f cs => some (.func f cs, h)
    | .iface t v => some (.iface t v, h)
    | .yield l => some (.yield l, h)
    | _ => none
  | .bin op x y => match binA op (x.ev e) (y.ev e) with
    | some v => some (v, h)
    | none => none
  | .eq neg k lit x y => match eqA k lit (x.ev e) (y.ev e) with
    | some b => some (.bool (b != neg), h)
    | none => none
  | .un op x => match unA op (x.ev e) with
    | some v => some (v, h)
    | none => none
  | .conv k x => match k, x.ev e with
    | .toInt k, .int _ n => some (.int k (k.wrap n), h)
    | .i2s, .int _ n => some (.str (encodeA n), h)
    | .s2b, .str s => some (.slice (s.map byteA) .ro, h)
    | .b2s, .slice xs _ => match unbytes xs with
      | some s => some (.str s, h)
      | none => none
    | .same, .str s => some (.str s, h)
    | _, _ => none
  | .mkif t x => some (.iface t (x.ev e), h)
  | .mkfn f cs => some (.func f (argsOf e cs), h)
  | .mkmap => some (.map h.nb, h.push (.amap []))
  | .insert kk m k v => match m.ev e with
    | .map n => match h.get n with
      | some (.amap es) => match findKey kk (k.ev e) es with
        | some none => some (.tup [], (h.wr n).put n (.amap (es ++ [(k.ev e, v.ev e)])))
        | _ => none
      | _ => none
    | _ => none
  | .mkslice _ _ _ _ _ => none
  | .slice true _ x lo hi mx => match x.ev e, mx with
    | .str s, none => match sliceB s.length s.length (lo.map (·.ev e)) (hi.map (·.ev e)) none with
      | some (l, h', _) => some (.str ((s.drop l).take (h' - l)), h)
      | none => none
    | _, _ => none
  | .slice false sz x lo hi mx => match x.ev e with
    | .slice xs p => if !headOk sz xs then none else match sliceB xs.length xs.length (lo.map (·.ev e)) (hi.map (·.ev e)) (mx.map (·.ev e)) with
      | some (l, h', m) =>
        let ys := (xs.drop l).take (h' - l)
        match m with
        | some m => some (.slice ys (if m = h' then .full else .ro), h)
        | none =>
          if h' = xs.length then
            match p with
            | .full => some (.slice ys .full, h)
            | .nil => some (.slice ys .ro, h)
            | .tok s => some (.slice ys (if l = 0 then .tok s else .ro), h)
            | .ro => some (.slice ys .ro, h)
          else some (.slice ys .ro, h)
      | none => none
    | .oslice s len => match lo, mx with
      | none, none => match hi with
        | some hi => match hi.ev e with
          | .int _ n => if 0 ≤ n ∧ n ≤ len then some (.oslice s n.toNat, h) else none
          | _ => none
        | none => none
      | _, _ => none
    | _ => none
  | .faddr off x => match x.ev e with
    | .ptr n o => some (.ptr n (o + off), h)
    | .eptr cs o => some (.eptr cs (o + off), h)
    | .optr s i o => some (.optr s i (o + off), h)
    | _ => none
  | .field off agg sz x => match x.ev e with
    | .agg cs => match cellAt agg sz cs off with
      | some v => some (v, h)
      | none => none
    | _ => none
  | .iaddr arr sz x i => match i.ev e with
    | .int _ i => match arr, x.ev e with
      | none, .slice xs _ =>
        if 0 ≤ i ∧ i < xs.length then
          match (xs.getD i.toNat .junk).cells? with
          | some cs => if cs.length = sz then some (.eptr cs 0, h) else none
          | none => none
        else none
      | none, .oslice s len =>
        if 0 ≤ i ∧ i < len then
          match h.slot s with
          | some (.arr sz' xs) => if sz' == sz && decide (len ≤ xs.length) then some (.optr s i.toNat 0, h.rdS s) else none
          | _ => none
        else none
      | some n, .ptr b o => if 0 ≤ i ∧ i < n then some (.ptr b (o + i.toNat * sz), h) else none
      | _, _ => none
    | _ => none
  | .index arr x i => match i.ev e with
    | .int _ i => match arr, x.ev e with
      | none, .str s => match (if 0 ≤ i then s[i.toNat]? else none) with
        | some b => some (byteA b, h)
        | none => none
      | some (n, sz, agg), .agg cs =>
        if 0 ≤ i ∧ i < n then
          match cellAt agg sz cs (i.toNat * sz) with
          | some v => some (v, h)
          | none => none
        else none
      | _, _ => none
    | _ => none
  | .lookup kk z ok m k => match m.ev e with
    | .map n => match h.get n with
      | some (.amap es) => match findKey kk (k.ev e) es with
        | some (some v) => some (if ok then .tup [v, .bool true] else v, h.rd n)
        | some none => some (if ok then .tup [z, .bool false] else z, h.rd n)
        | none => none
      | _ => none
    | _ => none
  | .range x => match x.ev e with
    | .str s => some (.iter h.nb, h.push (.siter s 0))
    | _ => none
  | .next x => match x.ev e with
    | .iter n => match h.get n with
      | some (.siter s pos) =>
        if pos < s.length then
          let r := decodeA (s.drop pos)
          some (.tup [.bool true, .int .i64 pos, .int .i32 r.1], (h.wr n).put n (.siter s (pos + r.2)))
        else some (.tup [.bool false], h.rd n)
      | _ => none
    | _ => none
  | .assertI nt yes z ok x => match x.ev e with
    | .iface t v => if nt ≤ t then none else if yes.contains t then some (if ok then .tup [.iface t v, .bool true] else .iface t v, h)
      else if ok then some (.tup [z, .bool false], h) else none
    | .nilIface => if ok then some (.tup [z, .bool false], h) else none
    | _ => none
  | .assertC t z ok x => match x.ev e with
    | .iface t' v => if t' = t then some (if ok then .tup [v, .bool true] else v, h)
      else if ok then some (.tup [z, .bool false], h) else none
    | .nilIface => if ok then some (.tup [z, .bool false], h) else none
    | _ => none
  | .extract i x => match x.ev e with
    | .tup vs => match vs[i]? with
      | some v => some (v, h)
      | none => none
    | _ => none
  | .call f as => K (.fn f) (argsOf e as) h
  | .callV x as => match x.ev e with
    | .func f cs => K (.fn f) (argsOf e as ++ cs) h
    | .yield l => K (.yield l) (argsOf e as) h
    | _ => none
  | .invoke tab x as => match x.ev e with
    | .iface t v => match tab.lookup t with
      | some (f, m) => match recvA m v with
        | some r => K (.fn f) (r :: argsOf e as) h
        | none => none
      | none => none
    | _ => none
  | .append el sz bytes s x => match x.ev e with
    | .slice ys _ => appendA Q.G el sz bytes (s.ev e) ys h
    | .str t => appendA Q.G el sz bytes (s.ev e) (t.map byteA) h
    | _ => none
  | .len str x => match str, x.ev e with
    | true, .str s => some (.int .i64 s.length, h)
    | false, .slice xs _ => some (.int .i64 xs.length, h)
    | false, .oslice _ n => some (.int .i64 n, h)
    | _, _ => none
  | .cap x => match x.ev e with
    | .slice xs .full => some (.int .i64 xs.length, h)
    | .slice xs .nil => some (.int .i64 xs.length, h)
    | _ => none
  | .min2 mx x y => match x.ev e, y.ev e with
    | .int k a, .int _ b => some (.int k (if mx then (if a < b then b else a) else if b < a then b else a), h)
    | _, _ => none
  | .sdata x => match x.ev e with
    | .slice [] .nil => some (.nilptr, h)
    | .slice (x :: xs) p => if (unbytes (x :: xs)).isSome then some (.sdata (x :: xs) p, h) else none
    | _ => none
  | .ustr el p n => match p.ev e, n.ev e with
    | .nilptr, .int .i64 n => if n = 0 then some (.str [], h) else none
    | .sdata xs p, .int .i64 n => if n = xs.length ∧ 0 < n ∧ n < 9223372036854775807 then
        match unbytes xs, p with
        | some t, .tok s => match h.slot s with
          | some (.perm el') => if el' = el then some (.str t, h.wrS s) else none
          | _ => none
        | _, _ => none
      else none
    | _, _ => none
  | .defer _ _ => none
  | .bad => none

/-- is the operation carried out? -/
def wantedA (e : Env) : Option (Nat × Bool) → Option Bool
  | none => some true
  | some (d, want) => match e.get d with
    | .bool b => some (b == want)
    | .junk => none
    | _ => some false

def setDst (e : Env) (d : Option Nat) (v : AV) : Env := match d with | some d => e.set d v | none => e

def evalOper (Q : AProg) (K : CallF) (rnd : Option Nat) (o : AOper) (s : St) : Option St :=
  match wantedA s.env o.guard with
  | none => none
  | some false => some { s with env := setDst s.env o.dst (.tup []) }
  | some true =>
    match o.op with
    | .defer x as =>
      if rnd.isSome then none else
      match x.ev s.env with
      | .func f cs => if Q.isCode f then some { s with env := setDst s.env o.dst (.tup []), ds := .call f (argsOf s.env as ++ cs) :: s.ds } else none
      | _ => none
    | op => match opA Q K op s.env s.h with
      | some (v, h) => some { s with env := setDst s.env o.dst v, h := h }
      | none => none

def evalOps (Q : AProg) (K : CallF) (rnd : Option Nat) : List AOper → St → Option St
  | [], s => some s
  | o :: os, s => match evalOper Q K rnd o s with
    | some s' => evalOps Q K rnd os s'
    | none => none

def disj (a b : List Loc) : Bool := a.all fun x => !b.contains x

def filt (base sbase : Nat) : List Loc → List Loc
  | [] => []
  | .b n :: l => if n < base then .b n :: filt base sbase l else filt base sbase l
  | .s n :: l => if n < sbase then .s n :: filt base sbase l else filt base sbase l

/-- the locations that are new -/
def ownL (h h' : Heap) : List Loc := (List.range' h.nb (h'.nb - h.nb)).map .b ++ (List.range' h.ns (h'.ns - h.ns)).map .s

def evalDraw (Q : AProg) (K : CallF) (rnd : Option Nat) : List AOper → List (List Loc × List Loc) → St → Option St
  | [], _, s => some s
  | o :: os, fs, s =>
    match evalOper Q K rnd o { s with h := { s.h with base := s.h.nb, sbase := s.h.ns, t := [], w := [] } } with
    | none => none
    | some s1 =>
      let f := (ownL s.h s1.h ++ s1.h.w ++ s1.h.t, ownL s.h s1.h ++ s1.h.w)
      if o.conf.all fun i => match fs[i]? with
          | some (t, w) => disj f.2 t && disj w f.1
          | none => false
      then
        evalDraw Q K rnd os (fs ++ [f])
          { s1 with h := { s1.h with base := s.h.base, sbase := s.h.sbase, t := filt s.h.base s.h.sbase s1.h.t ++ s.h.t, w := filt s.h.base s.h.sbase s1.h.w ++ s.h.w } }
      else none

abbrev Iter := (St → Option (Ex × St)) → St → Option (Ex × St)

def iterN : Nat → Iter
  | 0, _, _ => none
  | n + 1, b, s => match b s with
    | some (.norm, s') => iterN n b s'
    | r => r

def adNf (B S : Nat) : AD → Bool
  | .mark => true
  | .call _ as => nfL B S as

/-- may the boxes from nb on go? -/
def canTrim (nb : Nat) (s : St) : Bool :=
  decide (nb < s.h.nb) && decide (s.h.base ≤ nb) && ((s.h.boxes.drop (s.h.nb - nb)).all fun o => o.nf nb s.h.ns) && (s.ds.all fun d => adNf nb s.h.ns d) &&
    s.h.live.all fun p => match p.2 with | .arr _ xs => nfL nb s.h.ns xs | .perm _ => true

/-- behind a round the boxes that nothing names go -/
def trimS (nb : Nat) (s : St) : St :=
  if canTrim nb s then { env := s.env.map fun v => if v.nf nb s.h.ns then v else .junk, ds := s.ds, h := { s.h with boxes := s.h.boxes.drop (s.h.nb - nb), nb := nb } }
  else s

def trimR (nb : Nat) : Option (Ex × St) → Option (Ex × St)
  | some (ex, s) => some (ex, trimS nb s)
  | none => none

/-- a round's own loop stands where it stood -/
def rndOk (rnd : Option Nat) (h : Heap) : Bool := match rnd with
  | none => true
  | some l0 => match h.get l0 with
    | some (.loop ..) => true
    | _ => false

def evalC (Q : AProg) (K : CallF) (it : Iter) (rnd : Option Nat) : ACode → St → Option (Ex × St)
  | .skip, s => some (.norm, s)
  | .region false ops, s => match evalOps Q K rnd ops s with
    | some s' => some (.norm, s')
    | none => none
  | .region true ops, s => match evalDraw Q K rnd ops [] s with
    | some s' => some (.norm, s')
    | none => none
  | .seq a b, s => match evalC Q K it rnd a s with
    | some (.norm, s') => evalC Q K it rnd b s'
    | r => r
  | .cond c a b, s => match c.ev s.env with
    | .bool true => evalC Q K it rnd a s
    | .bool false => evalC Q K it rnd b s
    | _ => none
  | .block id c, s => match evalC Q K it rnd c s with
    | some (.exit id', s') => if id' = id then some (.norm, s') else some (.exit id', s')
    | r => r
  | .loop c, s => it (fun s => trimR s.h.nb (evalC Q K it rnd c s)) s
  | .rfunc f ps a b, s =>
    let l := s.h.nb
    if rndOk rnd s.h then
      let h := s.h.push (.loop s.env ps a b .ready none)
      match (match f.ev s.env with
        | .func g cs => K (.fn g) (.yield l :: cs) h
        | _ => none) with
      | some (_, h') => match h'.get l with
        | some (.loop _ _ _ _ .busy _) => none
        | some (.loop e ps' a' b' _ p) =>
          let s' := { s with h := (h'.wr l).put l (.loop e ps' a' b' .done p), ds := if rnd.isSome then s.ds else .mark :: s.ds }
          match p with
          | none => some (.norm, s')
          | some ex => some (ex, s')
        | _ => none
      | none => none
    else none
  | .exit id, s => some (.exit id, s)
  | .scope c, s => evalC Q K it rnd c s
  | .ret, s => some (.ret, s)
  | .bad, _ => none

/-! ### calls -/

def readRes (e : Env) (h : Heap) : List ARes → Option (List AV × Heap)
  | [] => some ([], h)
  | .tmp i :: rs => match readRes e h rs with
    | some (vs, h') => some (e.get i :: vs, h')
    | none => none
  | .cell i agg sz :: rs => match e.get i with
    | .ptr n off => match h.get n with
      | some (.cells _ cs) => match cellAt agg sz cs off with
        | some v => match readRes e (h.rd n) rs with
          | some (vs, h') => some (v :: vs, h')
          | none => none
        | none => none
      | _ => none
    | _ => none

def tupOf : List AV → AV
  | [v] => v
  | vs => .tup vs

def runDefers (K : CallF) : List AD → Heap → Option Heap
  | [], h => some h
  | .mark :: ds, h => runDefers K ds h
  | .call f as :: ds, h => match K (.fn f) as h with
    | some (_, h') => runDefers K ds h'
    | none => none

/-- what was written of the boxes that stood before names no box that goes -/
def wOk (h0 h1 : Heap) : List Loc → Bool
  | [] => true
  | .b n :: l => (match h1.get n with | some o => o.nf h0.nb h1.ns | none => false) && wOk h0 h1 l
  | .s n :: l => (match h1.slot n with | some (.arr _ xs) => nfL h0.nb h1.ns xs | _ => true) && wOk h0 h1 l

def slotsOk (h0 h1 : Heap) : Bool := h1.live.all fun p => match p.2 with | .arr _ xs => nfL h0.nb h1.ns xs | .perm _ => true

/-- back to the caller's heap: the callee's boxes go -/
def popH (h0 h1 : Heap) (r : AV) : Option (AV × Heap) :=
  let r := r.strip
  match h1.w with
  | [] =>
    if r.nf h0.nb h0.ns then some (r, { h0 with t := filt h0.base h0.sbase h1.t ++ h0.t })
    else none
  | w =>
    if r.nf h0.nb h1.ns && wOk h0 h1 w && slotsOk h0 h1 then
      some (r, { h1 with boxes := h1.boxes.drop (h1.nb - h0.nb), nb := h0.nb, base := h0.base, sbase := h0.sbase,
                         t := filt h0.base h0.sbase h1.t ++ h0.t, w := filt h0.base h0.sbase w ++ h0.w })
    else none

def keepH (h0 h1 : Heap) (r : AV) : AV × Heap :=
  (r, { h1 with base := h0.base, sbase := h0.sbase, t := filt h0.base h0.sbase h1.t ++ h0.t, w := filt h0.base h0.sbase h1.w ++ h0.w })

def enterH (h : Heap) : Heap := { h with base := h.nb, sbase := h.ns, t := [], w := [] }

def bodyB (Q : AProg) (K : CallF) (it : Iter) : CallF := fun tgt args h =>
  match tgt with
  | .fn f => match Q.codes f with
    | some (.prim p) => Q.prims p args h
    | some (.code nt res body) =>
      if args.length ≤ nt then
        match evalC Q K it none body ⟨args, [], enterH h⟩ with
        | some (ex, s) =>
          match ex with
          | .exit _ => none
          | _ => match runDefers K s.ds s.h with
            | some h1 => match readRes s.env h1 res with
              | some (vs, h2) => if Q.keep f then some (keepH h h2 (tupOf vs)) else popH h h2 (tupOf vs)
              | none => none
            | none => none
        | none => none
      else none
    | none => none
  | .yield l => match h.get l with
    | some (.loop env ps a b .ready _) =>
      if args.length = ps.length then
        match evalC Q K it (some l) a ⟨setMany env ps args, [], enterH h⟩ with
        | some (.norm, s1) => match s1.h.get l with
          | some (.loop e1 ps1 a1 b1 .ready p1) =>
            match evalC Q K it (some l) b { s1 with h := (s1.h.wr l).put l (.loop e1 ps1 a1 b1 .busy p1) } with
            | some (ex, s2) => match s2.h.get l with
              | some (.loop e2 ps2 a2 b2 _ _) =>
                let (st, pend, r) : LState × Option Ex × Bool := match ex with
                  | .norm => (.ready, none, true)
                  | ex => (.done, some ex, false)
                popH h ((s2.h.wr l).put l (.loop e2 ps2 a2 b2 st pend)) (.bool r)
              | _ => none
            | none => none
          | _ => none
        | _ => none
      else none
    | _ => none

/-- the heap of the package variables alone -/
def ground (G : Nat) (h : Heap) : Heap := { boxes := h.boxes.drop (h.nb - G), nb := G, ns := 0, live := [], base := G, sbase := 0, t := [], w := [] }
def groundOk (G : Nat) (h : Heap) : Bool := (h.boxes.drop (h.nb - G)).all fun o => o.nf G 0
def logG (G : Nat) (h : Heap) : Heap := { h with t := (List.range G).map .b ++ h.t }

/-- a call whose arguments name nothing runs over the package variables alone -/
def bodyA (Q : AProg) (K : CallF) (it : Iter) : CallF := fun tgt args h =>
  match tgt with
  | .fn f =>
    if Q.isCode f && !Q.keep f && nfL Q.G 0 args then
      if groundOk Q.G h then
        match bodyB Q K it (.fn f) args (ground Q.G h) with
        | some (v, h1) => match h1.w with
          | [] => if v.nf Q.G 0 then some (v, logG Q.G h) else none
          | _ => none
        | none => none
      else none
    else bodyB Q K it (.fn f) args h
  | .yield l => bodyB Q K it (.yield l) args h

def callN (Q : AProg) : Nat → CallF
  | 0 => fun _ _ _ => none
  | n + 1 => bodyA Q (callN Q n) (iterN n)

end Am
end
section
namespace Am
open Go

structure TrCfg where
  own : Nat → Bool
  prim : Nat → Option Nat

def cvN : Nat → Value → Option AV
  | 0, _ => none
  | n + 1, v => match v with
    | .bool b => some (.bool b)
    | .int k i => some (.int k i)
    | .string s => some (.str s.data.toList)
    | .pointer none => some .nilptr
    | .slice none l c => if l = 0 ∧ c = 0 then some (.slice [] .nil) else none
    | .nilFunc => some .nilFunc
    | .map none => some .junk
    | .nilIface => some .nilIface
    | .iface t v => (cvN n v).map (.iface t)
    | .agg cs => (cs.toList.mapM (cvN n)).map .agg
    | .tuple cs => (cs.toList.mapM (cvN n)).map .tup
    | .func (.func f) a b => if a.toList.isEmpty ∧ b.toList.isEmpty then some (.func f []) else none
    | _ => none

def cv (v : Value) : Option AV := cvN 8 v

section
variable (P : Program)

def isAggT (t : TypeId) : Bool := match P.underlying t with
  | some (.struct _) | some (.array _ _) => true
  | _ => false
def sizeT (t : TypeId) : Option Nat := if (P.underlying t).isSome then (P.info? t).map (·.size) else none
def bytesT (t : TypeId) : Option Nat := (P.info? t).map (·.bytes)
def zeroT (t : TypeId) : Option AV := ((P.info? t).bind (·.zero)).bind cv

def trO : Operand → Option AO
  | .tmp i => some (.t i)
  | .const v => (cv v).map .c
  | .global g => if g < P.globals.size then some (.c (.ptr g 0)) else none
  | .func f => some (.c (.func f []))

def trOs (xs : Array Operand) : Option (List AO) := xs.toList.mapM (trO P)

def trOO : Option Operand → Option (Option AO)
  | none => some none
  | some x => (trO P x).map some

/-- fields one behind the other, from a place on; the kinds of their cells -/
def walkF (g : TypeId → Option (List Nat)) : List Field → Nat → Option (List Nat)
  | [], _ => some []
  | f :: fs, off =>
    if f.name = "_" ∨ f.offset ≠ off then none else
    match g f.type with
    | some ks => if sizeT P f.type = some ks.length then (walkF g fs (off + ks.length)).map (ks ++ ·) else none
    | none => none

/-- the kinds of the cells of a struct whose parts are all numbers, texts and truths -/
def primCells : Nat → TypeId → Option (List Nat)
  | 0, _ => none
  | n + 1, t => match P.underlying t with
    | some .bool => some [0]
    | some (.int _) => some [1]
    | some .string => some [2]
    | some (.struct fs) => if P.stoodInHeld t then none else walkF P (primCells n) fs.toList 0
    | _ => none

/-- types of pointers that may be held by an interface, and be compared -/
def ptrT : List Nat := (List.range P.types.size).filter fun t => match P.info? t, P.underlying t with
  | some i, some (.pointer e) => i.comparable && i.methods.any (·.name == "Error") && (match sizeT P e with | some n => n != 0 | none => false)
  | _, _ => false

def isLit : Operand → Bool
  | .const _ => true
  | _ => false

def hasAll (want : Array (String × TypeId)) (got : Array Method) : Bool := want.toList.all fun x => got.any fun m => m.name == x.1 && m.sig == x.2

theorem least_isNone (l : List String) : (Instr.least l).isNone = l.isEmpty := by cases l <;> rfl
theorem missing_isNone (want : Array (String × TypeId)) (got : Array Method) : (Instr.missingMethod want got).isNone = hasAll want got := by
  have horElse : ∀ a b : Option String, (a <|> b).isNone = (a.isNone && b.isNone) := by intro a b; cases a <;> rfl
  simp only [Instr.missingMethod, horElse, least_isNone, List.isEmpty_map]
  generalize hm : (want.toList.filter fun x => !got.any fun m => m.name == x.1 && m.sig == x.2) = ms
  have h1 : hasAll want got = ms.isEmpty := by
    subst hm
    simp only [hasAll]
    generalize want.toList = l
    induction l with
    | nil => rfl
    | cons x l ih =>
      simp only [List.all_cons, List.filter_cons]
      cases hx : got.any fun m => m.name == x.1 && m.sig == x.2
      · simp
      · simpa using ih
  rw [h1]
  have h2 : ∀ (l : List String) (p : String → Bool), ((l.partition p).2.isEmpty && (l.partition p).1.isEmpty) = l.isEmpty := by
    intro l p
    rw [List.partition_eq_filter_filter]
    cases l with
    | nil => rfl
    | cons x l => cases hx : p x <;> simp [hx]
  have h3 := h2 (ms.map (·.1)) (·.contains '.')
  simp only [List.isEmpty_map] at h3
  exact h3

def implT (want : Array (String × TypeId)) : List Nat :=
  (List.range P.types.size).filter fun t => match P.info? t with
    | some i => hasAll want i.methods
    | none => false

def invT (name : String) : List (Nat × Nat × Option Nat) :=
  (List.range P.types.size).filterMap fun t => match P.info? t with
    | some i => match i.methods.find? (·.name == name) with
      | some m =>
        match m.path.toList with
        | [] =>
          match m.func, P.underlying t with
          | some (f, true), some (.pointer _) => some (t, f, none)
          | some (_, false), some (.pointer _) => none
          | some (f, false), some _ => some (t, f, none)
          | _, _ => none
        | [s] =>
          if s.deref then none else
          match P.underlying s.struct with
          | some (.struct fs) => match fs[s.index]? with
            | some fd => match m.func, P.underlying fd.type with
              | some (f, true), some (.pointer _) => if s.struct = t then some (t, f, some fd.offset) else none
              | _, _ => none
            | none => none
          | _ => none
        | _ => none
      | none => none
    | none => none

def trParts (place : Nat → Option (Nat × Nat)) (ps : Array (Nat × Operand)) : Option (List (Nat × Nat × AO)) :=
  ps.toList.mapM fun (i, x) => do
    let (off, sz) ← place i
    let x ← trO P x
    some (off, sz, x)

def repl : Nat → List AV → List AV
  | 0, _ => []
  | n + 1, z => z ++ repl n z

def trCall (own : Bool) (o : Oper) (c : Call) : Option AOp := do
  let _ := own
  match c.callee with
  | .value (.func f) => some (.call f (← trOs P c.args))
  | .value x => some (.callV (← trO P x) (← trOs P c.args))
  | .invoke x name => some (.invoke (invT P name) (← trO P x) (← trOs P c.args))
  | .builtin .append => match c.args.toList, c.argTypes.toList with
    | [s, x], [st, xt] => match P.underlying st, P.underlying xt with
      | some (.slice e), some (.slice _) | some (.slice e), some .string => do
        let b ← bytesT P e
        let z ← sizeT P e
        let zv ← zeroT P e
        let zl ← zv.cells?
        if b = 0 ∨ z = 0 ∨ zl.length ≠ z then none else some (.append e z b (← trO P s) (← trO P x))
      | _, _ => none
    | _, _ => none
  | .builtin .len => match c.args.toList, c.argTypes.toList with
    | [x], [t] => match P.underlying t with
      | some .string => do some (.len true (← trO P x))
      | some (.slice _) => do some (.len false (← trO P x))
      | _ => none
    | _, _ => none
  | .builtin .cap => match c.args.toList, c.argTypes.toList with
    | [x], [t] => match P.underlying t with
      | some (.slice _) => do some (.cap (← trO P x))
      | _ => none
    | _, _ => none
  | .builtin .min => match c.args.toList with
    | [x, y] => do some (.min2 false (← trO P x) (← trO P y))
    | _ => none
  | .builtin .max => match c.args.toList with
    | [x, y] => do some (.min2 true (← trO P x) (← trO P y))
    | _ => none
  | .builtin .unsafeSliceData => match c.args.toList with
    | [x] => do some (.sdata (← trO P x))
    | _ => none
  | .builtin .unsafeString => match c.args.toList, c.argTypes.toList with
    | [x, n], [pt, _] => match P.underlying pt with
      | some (.pointer e) => match P.underlying e with
        | some (.int .u8) => do
          if sizeT P e = some 1 ∧ P.cellsOf e = 1 ∧ P.depth ≠ 0 then some (.ustr e (← trO P x) (← trO P n)) else none
        | _ => none
      | _ => none
    | _, _ => none
  | _ => let _ := o; none

def trOp (own : Bool) (o : Oper) : Option AOp :=
  match o.op with
  | .move x | .assign x => do some (.mv (← trO P x))
  | .pick c a b => do some (.pick (← trO P c) (← trO P a) (← trO P b))
  | .alloc t => do
    let z ← zeroT P t
    some (.alloc t (← z.cells?))
  | .box t x => do some (.box t (← trO P x))
  | .build t ps => do
    let z ← zeroT P t
    let z ← z.cells?
    match P.underlying t with
    | some (.struct fs) =>
      if fs.toList.all fun f => (sizeT P f.type).isSome then
        some (.build z (← trParts P (fun i => do let f ← fs[i]?; some (f.offset, ← sizeT P f.type)) ps))
      else none
    | some (.array _ e) => do
      let s ← sizeT P e
      some (.build z (← trParts P (fun i => some (i * s, s)) ps))
    | _ => none
  | .buildSlice t n ps => match P.underlying t with
    | some (.slice e) => do
      let s ← sizeT P e
      let z ← zeroT P e
      let z ← z.cells?
      if s = 0 ∨ n * s > 1000000 ∨ z.length ≠ s ∨ (s ≠ 1 ∧ !isAggT P e) then none else
      some (.bslice own (isAggT P e) n s (repl n z) (← trParts P (fun i => if i < n then some (i * s, s) else none) ps))
    | _ => none
  | .load t x => do
    let s ← sizeT P t
    some (.load (isAggT P t) s (← trO P x))
  | .store t x v => do
    let s ← sizeT P t
    some (.store s (← trO P x) (← trO P v))
  | .nilCheck x => do some (.nilck (← trO P x))
  | .binOp op t x y _ =>
    match op with
    | .eql | .neq => match P.underlying t with
      | some (.int _) | some .string => do some (.bin op (← trO P x) (← trO P y))
      | some .bool => do some (.eq (op == .neq) .prim false (← trO P x) (← trO P y))
      | some (.pointer e) => do
        let s ← sizeT P e
        if s = 0 then none else some (.eq (op == .neq) .ptr false (← trO P x) (← trO P y))
      | some (.interface _) => do some (.eq (op == .neq) (.iface (ptrT P)) (isLit x || isLit y) (← trO P x) (← trO P y))
      | some (.struct _) => do
        let ks ← primCells P 6 t
        if sizeT P t = some ks.length ∧ P.eqGuardType P.depth t = false then some (.eq (op == .neq) (.cells ks) false (← trO P x) (← trO P y)) else none
      | _ => none
    | _ => do some (.bin op (← trO P x) (← trO P y))
  | .unOp op _ x => do some (.un op (← trO P x))
  | .convert src dst x =>
    match P.underlying src, P.underlying dst with
    | some (.int _), some (.int k) => do some (.conv (.toInt k) (← trO P x))
    | some (.int _), some .string => do some (.conv .i2s (← trO P x))
    | some .string, some .string => do some (.conv .same (← trO P x))
    | some .string, some (.slice e) => match P.underlying e with
      | some (.int .u8) => do some (.conv .s2b (← trO P x))
      | _ => none
    | some (.slice e), some .string => match P.underlying e with
      | some (.int .u8) => do some (.conv .b2s (← trO P x))
      | _ => none
    | _, _ => none
  | .makeInterface t x => match P.underlying t with
    | some (.interface _) => none
    | some _ => do some (.mkif t (← trO P x))
    | none => none
  | .makeFunc (.func f) first caps => if first.isEmpty then do some (.mkfn f (← trOs P caps)) else none
  | .makeMap _ none => some .mkmap
  | .insert t m k v => match P.underlying t with
    | some (.map kt _) => match P.underlying kt with
      | some (.int _) => do some (.insert 1 (← trO P m) (← trO P k) (← trO P v))
      | some .string => do some (.insert 2 (← trO P m) (← trO P k) (← trO P v))
      | _ => none
    | _ => none
  | .slice t x lo hi mx => match P.underlying t with
    | some .string => do some (.slice true 1 (← trO P x) (← trOO P lo) (← trOO P hi) (← trOO P mx))
    | some (.slice e) => do
      let s ← sizeT P e
      if s = 0 then none else
      some (.slice false s (← trO P x) (← trOO P lo) (← trOO P hi) (← trOO P mx))
    | _ => none
  | .fieldAddr t x f => match P.underlying t with
    | some (.struct fs) => do
      let f ← fs[f]?
      let s ← sizeT P f.type
      if s = 0 then none else some (.faddr f.offset (← trO P x))
    | _ => none
  | .field t x f => match P.underlying t with
    | some (.struct fs) => do
      let f ← fs[f]?
      let s ← sizeT P f.type
      some (.field f.offset (isAggT P f.type) s (← trO P x))
    | _ => none
  | .indexAddr t x i => match P.underlying t with
    | some (.slice e) => do
      let s ← sizeT P e
      if s = 0 then none else some (.iaddr none s (← trO P x) (← trO P i))
    | some (.array n e) => do
      let s ← sizeT P e
      if s = 0 then none else some (.iaddr (some n) s (← trO P x) (← trO P i))
    | _ => none
  | .index t x i => match P.underlying t with
    | some .string => do some (.index none (← trO P x) (← trO P i))
    | some (.array n e) => do
      let s ← sizeT P e
      some (.index (some (n, s, isAggT P e)) (← trO P x) (← trO P i))
    | _ => none
  | .lookup t m k ok => match P.underlying t with
    | some (.map kt e) => match P.underlying kt with
      | some (.int _) => do
        let z ← zeroT P e
        some (.lookup 1 z ok (← trO P m) (← trO P k))
      | some .string => do
        let z ← zeroT P e
        some (.lookup 2 z ok (← trO P m) (← trO P k))
      | _ => none
    | _ => none
  | .range t x => match P.underlying t with
    | some .string => do some (.range (← trO P x))
    | _ => none
  | .next x true => do some (.next (← trO P x))
  | .typeAssert x _ t ok => match P.underlying t with
    | some (.interface want) => do some (.assertI P.types.size (implT P want) (← zeroT P t) ok (← trO P x))
    | some _ => do some (.assertC t (← zeroT P t) ok (← trO P x))
    | none => none
  | .extract x i => do some (.extract i (← trO P x))
  | .call c => trCall P own o c
  | .defer c => match c.callee with
    | .value x => do some (.defer (← trO P x) (← trOs P c.args))
    | _ => none
  | _ => none

/-- may it touch what stands in memory? -/
def loud : AOp → Bool
  | .mv _ | .pick .. | .build .. | .nilck _ | .bin .. | .eq .. | .un .. | .conv .. | .mkif .. | .mkfn ..
  | .slice .. | .faddr .. | .field .. | .index .. | .assertI .. | .assertC .. | .extract .. | .len .. | .cap _ | .min2 .. | .sdata _ => false
  | _ => true

/-- what an operation looks at -/
def AOp.aos : AOp → List AO
  | .mv x | .box _ x | .load _ _ x | .nilck x | .un _ x | .conv _ x | .mkif _ x | .faddr _ x | .field _ _ _ x | .range x | .next x | .assertI _ _ _ _ x | .assertC _ _ _ x
  | .extract _ x | .len _ x | .cap x | .sdata x => [x]
  | .pick c a b => [c, a, b]
  | .alloc _ _ | .mkmap | .bad => []
  | .build _ ps | .bslice _ _ _ _ _ ps => ps.map (·.2.2)
  | .store _ x v => [x, v]
  | .bin _ x y | .eq _ _ _ x y | .min2 _ x y => [x, y]
  | .mkfn _ cs => cs
  | .insert _ m k v => [m, k, v]
  | .mkslice _ _ _ l c => [l, c]
  | .slice _ _ x lo hi mx => x :: (lo.toList ++ hi.toList ++ mx.toList)
  | .iaddr _ _ x i | .index _ x i => [x, i]
  | .lookup _ _ _ m k => [m, k]
  | .call _ as => as
  | .callV x as => x :: as
  | .invoke _ x as => x :: as
  | .append _ _ _ s x => [s, x]
  | .ustr _ p n => [p, n]
  | .defer x as => x :: as

def AO.tmp? : AO → Option Nat
  | .t i => some i
  | .c _ => none

def AOper.names (a : AOper) : List Nat := a.op.aos.filterMap AO.tmp? ++ a.guard.toList.map (·.1)

def apartA (x y : AOper) : Bool :=
  (match x.dst with | some d => !y.names.contains d && y.dst != some d | none => true) && (match y.dst with | some d => !x.names.contains d | none => true)

def isDefer : AOp → Bool
  | .defer .. => true
  | _ => false

/-- what may come in any order does not meet -/
def drawOk (ops : Array Oper) (b : Array Nat) (as : List AOper) : Bool :=
  (List.range as.length).all fun j => match ops[j]?, as[j]? with
    | some o, some a =>
      (o.after.toList.all fun e => !Region.binds .any e || e.on < j) && !isDefer a.op &&
      (List.range j).all fun i =>
        if (b.getD j 0).testBit i then o.after.toList.any fun e => Region.binds .any e && (e.on == i || (decide (i < e.on) && (b.getD e.on 0).testBit i))
        else match as[i]? with
          | some a' => apartA a' a && (!loud a'.op || !loud a.op || a.conf.contains i)
          | none => false
    | _, _ => false

def trOper (own draw : Bool) (ops : Array Oper) (b : Array Nat) (loudBefore : List Nat) (j : Nat) (o : Oper) : AOper :=
  let op := (trOp P own o).getD .bad
  let g : Option (Option (Nat × Bool)) := match o.guard with
    | none => some none
    | some (i, want) => ((ops[i]?).bind (·.dst)).map fun d => some (d, want)
  let conf := if draw && loud op then loudBefore.filter fun i => !(b.getD j 0).testBit i else []
  match g with
  | some g => { dst := o.dst, op := op, guard := g, conf := conf }
  | none => { dst := o.dst, op := .bad, guard := none, conf := [] }

def trOpers (own draw : Bool) (ops : Array Oper) (b : Array Nat) : List Nat → Nat → List Oper → List AOper
  | _, _, [] => []
  | lb, j, o :: os =>
    let a := trOper P own draw ops b lb j o
    a :: trOpers own draw ops b (if loud a.op then lb ++ [j] else lb) (j + 1) os

def trC (own : Bool) : Code → ACode
  | .skip => .skip
  | .label _ => .skip
  | .region _ ops draw =>
    let b := Region.before ops
    let own := own && !ops.any fun o => match o.op with | .call { callee := .builtin .append, .. } => true | _ => false
    let as := trOpers P own draw ops b [] 0 ops.toList
    if !draw || drawOk ops b as then .region draw as else .bad
  | .seq a b => .seq (trC own a) (trC own b)
  | .cond c a b => match trO P c with
    | some c => .cond c (trC own a) (trC own b)
    | none => .bad
  | .block id c => .block id (trC own c)
  | .loop c => .loop (trC own c)
  | .rangeFunc f ps a b => match trO P f with
    | some f => .rfunc f ps.toList (trC own a) (trC own b)
    | none => .bad
  | .exit id => .exit id
  | .scope c => .scope (trC own c)
  | .ret => .ret
  | .goto _ | .refuse _ => .bad

def trRes : ResultVar → Option ARes
  | .tmp i => some (.tmp i)
  | .cell i t => (sizeT P t).map fun s => .cell i (isAggT P t) s

/-- every place that is written lies in the frame -/
def dstOk (nt : Nat) : ACode → Bool
  | .region _ ops => ops.all fun o => match o.dst with | some d => d < nt | none => true
  | .seq a b => dstOk nt a && dstOk nt b
  | .cond _ a b => dstOk nt a && dstOk nt b
  | .block _ c => dstOk nt c
  | .loop c => dstOk nt c
  | .scope c => dstOk nt c
  | .rfunc _ ps a b => (ps.all fun p => p < nt) && dstOk nt a && dstOk nt b
  | _ => true

def trF (cfg : TrCfg) (f : Nat) : Option AFun :=
  match cfg.prim f with
  | some p => some (.prim p)
  | none => match P.funcs[f]? with
    | some fn => match fn.body with
      | some c => if fn.name == "runtime.NumGoroutine" then none else
        match fn.results.toList.mapM (trRes P) with
        | some rs => if dstOk fn.ntmps (trC P (cfg.own f) c) then some (.code fn.ntmps rs (trC P (cfg.own f) c)) else none
        | none => none
      | none => none
    | none => none
end
end Am
end
section
namespace Am
open Go

/-- where a text begins in another one -/
def idxOf (sub : List UInt8) : List UInt8 → Nat → Option Nat
  | [], i => if sub.isEmpty then some i else none
  | c :: s, i => if sub.isPrefixOf (c :: s) then some i else idxOf sub s (i + 1)

def idxA (s sub : List UInt8) : Int := match idxOf sub s 0 with | some i => i | none => -1

/-- the pieces between the places of a text that is not empty -/
def splitA (sub : List UInt8) : Nat → List UInt8 → List (List UInt8)
  | 0, s => [s]
  | n + 1, s => match idxOf sub s 0 with
    | some i => s.take i :: splitA sub n (s.drop (i + sub.length))
    | none => [s]

def joinA (sep : List UInt8) : List (List UInt8) → List UInt8
  | [] => []
  | [s] => s
  | s :: l => s ++ sep ++ joinA sep l

def strs : List AV → Option (List (List UInt8))
  | [] => some []
  | .str s :: l => (strs l).map (s :: ·)
  | _ => none

structure RInfo where
  kind : Nat
  elem : Option Nat
  cmp : Bool
  agg : Bool
  size : Nat

structure RTab where
  lies : List (Nat × Nat × Nat)
  mx : Nat
  fst : Nat
  acc : Nat
  rtype : Nat
  info : List (Nat × RInfo)
  asg : List Nat
  impl : List ((Nat × Nat) × Bool)

def RTab.get (R : RTab) (t : Nat) : Option RInfo := R.info.lookup t

def loadA (agg : Bool) (sz : Nat) (h : Heap) (n off : Nat) : Option (AV × Heap) :=
  match h.get n with
  | some (.cells _ cs) => match cellAt agg sz cs off with
    | some v => some (v, h.rd n)
    | none => none
  | _ => none

def storeA (G sz : Nat) (h : Heap) (n off : Nat) (v : AV) : Option Heap :=
  match v.cells?, h.get n with
  | some vs, some (.cells ty cs) =>
    if vs.length = sz ∧ off + sz ≤ cs.length ∧ vs.all AV.scalar ∧ G ≤ n then some ((h.wr n).put n (.cells ty (putCells cs off vs))) else none
  | _, _ => none

def p0 (R : RTab) (args : List AV) (h : Heap) : Option (AV × Heap) := match args with
  | [.str s, .str sub] => match h.get R.mx with
    | some (.laid 0) => if s.length < 4294967000 then some (.int .i64 (idxA s sub), h.rd R.mx) else none
    | _ => none
  | _ => none

def p2 (R : RTab) (args : List AV) (h : Heap) : Option (AV × Heap) := match args with
  | [.str s, .str sep] => match h.get R.mx with
    | some (.laid 0) => if s.length < 4294967000 ∧ !sep.isEmpty then some (.slice ((splitA sep s.length s).map .str) .ro, h.rd R.mx) else none
    | _ => none
  | _ => none

def p3 (args : List AV) (h : Heap) : Option (AV × Heap) := match args with
  | [.slice xs _, .str sep] => match strs xs with
    | some l => if (joinA sep l).length < 4294967000 ∧ l.length < 4294967000 then some (.str (joinA sep l), h) else none
    | none => none
  | _ => none

def p4 (args : List AV) (h : Heap) : Option (AV × Heap) := match args with
  | [.str s, .int .u8 c] => some (.int .i64 (idxA s [UInt8.ofNat c.toNat]), h)
  | _ => none

def p6 (R : RTab) (args : List AV) (h : Heap) : Option (AV × Heap) := match args with
  | [.str s] => match h.get R.fst, h.get R.acc with
    | some (.laid 1), some (.laid 2) =>
      some (match s with | [] => .tup [.int .i32 0xFFFD, .int .i64 0] | s => .tup [.int .i32 (decodeA s).1, .int .i64 (decodeA s).2], (h.rd R.fst).rd R.acc)
    | _, _ => none
  | _ => none

def liesA (R : RTab) (h : Heap) (n off : Nat) : Bool := match h.get n with
  | some (.cells ty cs) => R.lies.contains (ty, off, cs.length)
  | _ => false
def p7b (G : Nat) (h : Heap) (n off : Nat) : Option (AV × Heap) := match loadA false 1 h n off with
  | some (.nilptr, h) => (storeA G 1 h n off (.ptr n off)).map fun h => (.tup [], h)
  | some (.ptr m o, h) => if m = n ∧ o = off then some (.tup [], h) else none
  | _ => none
def p7 (R : RTab) (G : Nat) (args : List AV) (h : Heap) : Option (AV × Heap) := match args with
  | [.ptr n off] => if liesA R h n off = true then p7b G h n off else none
  | _ => none

def p10 (R : RTab) (args : List AV) (h : Heap) : Option (AV × Heap) := match args with
  | [.iface t v] => match R.get t, v.cells? with
    | some i, some cs => some (.agg [.hdl t, .ptr h.nb 0, .int .u64 (i.kind + 128)], h.push (.cells t cs))
    | _, _ => none
  | _ => none

def p11 (R : RTab) (args : List AV) (h : Heap) : Option (AV × Heap) := match args with
  | [.agg [.hdl t, .ptr _ _, .int .u64 f]] => if 0 < f ∧ (R.get t).isSome then some (.iface R.rtype (.agg [.hdl t]), h) else none
  | _ => none

def p12 (R : RTab) (args : List AV) (h : Heap) : Option (AV × Heap) := match args with
  | [.agg [.hdl t, .ptr n off, .int .u64 f]] => match R.get t with
    | some i => if i.kind = 22 ∧ f.toNat % 32 = 22 ∧ 0 < f then match loadA false 1 h n off with
        | some (.nilptr, h) => some (.bool true, h)
        | some (.ptr _ _, h) => some (.bool false, h)
        | _ => none
      else none
    | none => none
  | _ => none

def p13 (R : RTab) (args : List AV) (h : Heap) : Option (AV × Heap) := match args with
  | [.agg [.hdl t, .ptr n off, .int .u64 f]] => match R.get t with
    | some i => match i.elem with
      | some e => match R.get e with
        | some j => if i.kind = 22 ∧ f.toNat % 32 = 22 ∧ 0 < f then match loadA false 1 h n off with
            | some (.ptr m o, h) => some (.agg [.hdl e, .ptr m o, .int .u64 (j.kind + 128 + 256)], h)
            | _ => none
          else none
        | none => none
      | none => none
    | none => none
  | _ => none

def p14 (R : RTab) (G : Nat) (args : List AV) (h : Heap) : Option (AV × Heap) := match args with
  | [.agg [.hdl t, .ptr n off, .int .u64 f], .agg [.hdl u, .ptr m o, .int .u64 f']] =>
    if t = u ∧ f.toNat / 256 % 2 = 1 ∧ 0 < f' then match R.get t with
      | some i => match loadA i.agg i.size h m o with
        | some (v, h) => match storeA G i.size h n off v with
          | some h => some (.tup [], h)
          | none => none
        | none => none
      | none => none
    else none
  | _ => none

def p15 (R : RTab) (args : List AV) (h : Heap) : Option (AV × Heap) := match args with
  | [.nilIface] => some (.nilIface, h)
  | [.iface t _] => if (R.get t).isSome then some (.iface R.rtype (.agg [.hdl t]), h) else none
  | _ => none

def p16 (R : RTab) (args : List AV) (h : Heap) : Option (AV × Heap) := match args with
  | [.hdl t] => match R.get t with
    | some i => some (.int .u8 i.kind, h)
    | none => none
  | _ => none

def p17 (R : RTab) (args : List AV) (h : Heap) : Option (AV × Heap) := match args with
  | [.agg [.hdl t]] => match R.get t with
    | some i => match i.elem with
      | some e => some (.iface R.rtype (.agg [.hdl e]), h)
      | none => none
    | none => none
  | _ => none

def p18 (R : RTab) (args : List AV) (h : Heap) : Option (AV × Heap) := match args with
  | [.agg [.hdl t]] => match R.get t with
    | some i => some (.bool i.cmp, h)
    | none => none
  | _ => none

def p19 (R : RTab) (args : List AV) (h : Heap) : Option (AV × Heap) := match args with
  | [.agg [.hdl t], .iface _ (.agg [.hdl u])] => if R.asg.contains t && R.asg.contains u then some (.bool (t == u), h) else none
  | _ => none

def p20 (R : RTab) (args : List AV) (h : Heap) : Option (AV × Heap) := match args with
  | [.agg [.hdl t], .iface _ (.agg [.hdl u])] => match R.impl.lookup (t, u) with
    | some b => some (.bool b, h)
    | none => none
  | _ => none

def primA (R : RTab) (G : Nat) (p : Nat) (args : List AV) (h : Heap) : Option (AV × Heap) :=
  match p with
  | 0 => p0 R args h
  | 2 => p2 R args h
  | 3 => p3 args h
  | 4 => p4 args h
  | 6 => p6 R args h
  | 7 => p7 R G args h
  | 10 => p10 R args h
  | 11 => p11 R args h
  | 12 => p12 R args h
  | 13 => p13 R args h
  | 14 => p14 R G args h
  | 15 => p15 R args h
  | 16 => p16 R args h
  | 17 => p17 R args h
  | 18 => p18 R args h
  | 19 => p19 R args h
  | 20 => p20 R args h
  | _ => none

end Am
end
section
namespace Am
open Go

structure SRef where
  b : Nat
  o : Nat
  cap : Nat
  sz : Nat
  n : Nat

inductive SSt where
  | unborn | dead | live (r : SRef)

structure Mp where
  nb : Nat
  ns : Nat
  box : Nat → Option Nat
  slot : Nat → SSt
  pin : Nat → Nat → Option Value
  sent : Nat → Option Addr

inductive SLe : SSt → SSt → Prop where
  | unborn {x : SSt} : SLe .unborn x
  | dead : SLe .dead .dead
  | live {r : SRef} : SLe (.live r) (.live r)
  | kill {r : SRef} : SLe (.live r) .dead

theorem SLe.refl (x : SSt) : SLe x x := by cases x <;> constructor
theorem SLe.trans {x y z : SSt} (h : SLe x y) (h' : SLe y z) : SLe x z := by
  cases h <;> cases h' <;> constructor

structure Mp.Le (M M' : Mp) : Prop where
  box : ∀ n b, M.box n = some b → M'.box n = some b
  slot : ∀ s, SLe (M.slot s) (M'.slot s)
  pin : ∀ b o v, M.pin b o = some v → M'.pin b o = some v
  sent : M'.sent = M.sent

theorem Mp.Le.refl (M : Mp) : M.Le M := ⟨fun _ _ h => h, fun _ => .refl _, fun _ _ _ h => h, rfl⟩
theorem Mp.Le.trans {M M' M'' : Mp} (h : M.Le M') (h' : M'.Le M'') : M.Le M'' :=
  ⟨fun n b e => h'.box n b (h.box n b e), fun s => (h.slot s).trans (h'.slot s), fun b o v e => h'.pin b o v (h.pin b o v e), h'.sent.trans h.sent⟩

def TokOk (M : Mp) (s b o len cap : Nat) : Prop := match M.slot s with
  | .unborn => False
  | .dead => True
  | .live r => r.b = b ∧ r.o = o ∧ r.cap = cap ∧ r.n = len

theorem TokOk.mono {M M' : Mp} (h : M.Le M') {s b o len cap : Nat} (hp : TokOk M s b o len cap) : TokOk M' s b o len cap := by
  have := h.slot s
  unfold TokOk at hp ⊢
  cases h1 : M.slot s <;> cases h2 : M'.slot s <;> rw [h1, h2] at this <;> rw [h1] at hp <;> cases this <;> simp_all

/-- what a permission says of a slice value -/
def PermOk (M : Mp) : Perm → Nat → Nat → Nat → Nat → Prop
  | .ro, _, _, _, _ => True
  | .full, _, _, len, cap => cap = len
  | .nil, _, _, _, _ => False
  | .tok s, b, o, len, cap => TokOk M s b o len cap

theorem PermOk.mono {M M' : Mp} (h : M.Le M') {p : Perm} {b o len cap : Nat} (hp : PermOk M p b o len cap) : PermOk M' p b o len cap := by
  cases p with
  | ro => trivial
  | full => exact hp
  | nil => exact hp
  | tok s => exact TokOk.mono h hp

def OwnOk (M : Mp) (s b o cap : Nat) : Prop := match M.slot s with
  | .unborn => False
  | .dead => True
  | .live r => r.b = b ∧ r.o = o ∧ r.cap = cap

theorem OwnOk.mono {M M' : Mp} (h : M.Le M') {s b o cap : Nat} (hp : OwnOk M s b o cap) : OwnOk M' s b o cap := by
  have := h.slot s
  unfold OwnOk at hp ⊢
  cases h1 : M.slot s <;> cases h2 : M'.slot s <;> rw [h1, h2] at this <;> rw [h1] at hp <;> cases this <;> simp_all

def ElemOk (M : Mp) (s i off b o : Nat) : Prop := match M.slot s with
  | .unborn => False
  | .dead => True
  | .live r => r.b = b ∧ o = r.o + i * r.sz + off

theorem ElemOk.mono {M M' : Mp} (h : M.Le M') {s i off b o : Nat} (hp : ElemOk M s i off b o) : ElemOk M' s i off b o := by
  have := h.slot s
  unfold ElemOk at hp ⊢
  cases h1 : M.slot s <;> cases h2 : M'.slot s <;> rw [h1, h2] at this <;> rw [h1] at hp <;> cases this <;> simp_all

/-- the abstract value x stands for the value -/
inductive VRel (P : Program) (G : Nat) (M : Mp) : AV → Value → Prop where
  | junk {v : Value} : VRel P G M .junk v
  | bool {b : Bool} : VRel P G M (.bool b) (.bool b)
  | int {k : IntKind} {n : Int} : VRel P G M (.int k n) (.int k n)
  | str {s : List UInt8} {a : ByteArray} (h : a.data.toList = s) : VRel P G M (.str s) (.string a)
  | nilptr : VRel P G M .nilptr (.pointer none)
  | ptr {n off b : Nat} (h : M.box n = some b) : VRel P G M (.ptr n off) (.pointer (some ⟨b, off, none⟩))
  | eptr {cs : List AV} {off b o : Nat} (cv : Nat → Value) (hn : ∀ i, i < cs.length → (cs.getD i .junk).nf G 0)
      (hp : ∀ i, i < cs.length → M.pin b (o + i) = some (cv i))
      (h : ∀ i, i < cs.length → VRel P G M (cs.getD i .junk) (cv i)) : VRel P G M (.eptr cs off) (.pointer (some ⟨b, o + off, none⟩))
  | optr {s i off b o : Nat} (h : ElemOk M s i off b o) : VRel P G M (.optr s i off) (.pointer (some ⟨b, o, none⟩))
  | sdata {xs : List AV} {p : Perm} {b o cap : Nat} (cv : Nat → Value) (hn : ∀ i, i < xs.length → (xs.getD i .junk).nf G 0)
      (hp : ∀ i, i < xs.length → M.pin b (o + i) = some (cv i))
      (h : ∀ i, i < xs.length → VRel P G M (xs.getD i .junk) (cv i)) (hs : PermOk M p b o xs.length cap) :
      VRel P G M (.sdata xs p) (.pointer (some ⟨b, o, none⟩))
  | sliceNil {p : Perm} (hp : p = .full ∨ p = .ro ∨ p = .nil) : VRel P G M (.slice [] p) (.slice none 0 0)
  | slice {xs : List AV} {p : Perm} {b o cap sz : Nat} (cv : Nat → Value)
      (hs : ∀ i, i < xs.length → (cv i).cells.size = sz ∧ (xs.getD i .junk).cells?.isSome ∧ (xs.getD i .junk).nf G 0)
      (hp : ∀ i, i < xs.length → ∀ j, j < sz → M.pin b (o + i * sz + j) = some ((cv i).cells.getD j undef))
      (h : ∀ i, i < xs.length → VRel P G M (xs.getD i .junk) (cv i))
      (hc : xs.length ≤ cap) (hk : PermOk M p b o xs.length cap) : VRel P G M (.slice xs p) (.slice (some ⟨b, o, none⟩) xs.length cap)
  | oslice {s len b o cap : Nat} (h : OwnOk M s b o cap) (hc : len ≤ cap) : VRel P G M (.oslice s len) (.slice (some ⟨b, o, none⟩) len cap)
  | iface {t : Nat} {v : AV} {c : Value} (h : VRel P G M v c) : VRel P G M (.iface t v) (.iface t c)
  | nilIface : VRel P G M .nilIface .nilIface
  | func {f : Nat} {cs : List AV} {vs : Array Value} (hl : vs.size = cs.length)
      (h : ∀ i, i < cs.length → VRel P G M (cs.getD i .junk) (vs.getD i undef)) : VRel P G M (.func f cs) (.func (.func f) #[] vs)
  | yield {l b : Nat} (h : M.box l = some b) : VRel P G M (.yield l) (.func (.yield b) #[] #[])
  | nilFunc : VRel P G M .nilFunc .nilFunc
  | agg {cs : List AV} {vs : Array Value} (hl : vs.size = cs.length)
      (h : ∀ i, i < cs.length → VRel P G M (cs.getD i .junk) (vs.getD i undef)) : VRel P G M (.agg cs) (.agg vs)
  | tup {cs : List AV} {vs : Array Value} (hl : vs.size = cs.length)
      (h : ∀ i, i < cs.length → VRel P G M (cs.getD i .junk) (vs.getD i undef)) : VRel P G M (.tup cs) (.tuple vs)
  | map {n b : Nat} (h : M.box n = some b) : VRel P G M (.map n) (.map (some b))
  | iter {n b : Nat} (h : M.box n = some b) : VRel P G M (.iter n) (.pointer (some ⟨b, 0, none⟩))
  | hdl {t : Nat} : VRel P G M (.hdl t) (typeHandle P t)
  | sent {i : Nat} {a : Addr} (h : M.sent i = some a) : VRel P G M (.sent i) (.pointer (some a))

section
variable {P : Program} {G : Nat}

theorem VRel.mono {M M' : Mp} (hm : M.Le M') {x : AV} {c : Value} (h : VRel P G M x c) : VRel P G M' x c := by
  induction h with
  | junk => exact .junk
  | bool => exact .bool
  | int => exact .int
  | str h => exact .str h
  | nilptr => exact .nilptr
  | ptr h => exact .ptr (hm.box _ _ h)
  | eptr cv hn hp _ ih => exact .eptr cv hn (fun i hi => hm.pin _ _ _ (hp i hi)) ih
  | optr h => exact .optr (h.mono hm)
  | sdata cv hn hp _ hs ih => exact .sdata cv hn (fun i hi => hm.pin _ _ _ (hp i hi)) ih (hs.mono hm)
  | sliceNil hp => exact .sliceNil hp
  | slice cv hs hp _ hc hk ih => exact .slice cv hs (fun i hi j hj => hm.pin _ _ _ (hp i hi j hj)) ih hc (hk.mono hm)
  | oslice h hc => exact .oslice (h.mono hm) hc
  | iface _ ih => exact .iface ih
  | nilIface => exact .nilIface
  | func hl _ ih => exact .func hl ih
  | yield h => exact .yield (hm.box _ _ h)
  | nilFunc => exact .nilFunc
  | agg hl _ ih => exact .agg hl ih
  | tup hl _ ih => exact .tup hl ih
  | map h => exact .map (hm.box _ _ h)
  | iter h => exact .iter (hm.box _ _ h)
  | hdl => exact .hdl
  | sent h => exact .sent (by rw [hm.sent]; exact h)

/-- the map without the boxes from B on and without the slots from S on -/
def Mp.cut (M : Mp) (B S : Nat) : Mp :=
  { nb := B, ns := S, box := fun n => if n < B then M.box n else none, slot := fun s => if s < S then M.slot s else .unborn, pin := M.pin, sent := M.sent }

theorem nfL_get {B S : Nat} : ∀ {cs : List AV} {i : Nat}, nfL B S cs = true → i < cs.length → (cs.getD i .junk).nf B S = true
  | c :: cs, 0, h, _ => by simp [nfL] at h; simpa using h.1
  | c :: cs, i + 1, h, hi => by
    simp [nfL] at h
    have := nfL_get (i := i) h.2 (by simpa using hi)
    simpa using this

theorem PermOk.cut {M : Mp} {B S : Nat} {p : Perm} {b o len cap : Nat} (hp : PermOk M p b o len cap) (h : ∀ s, p = .tok s → s < S) :
    PermOk (M.cut B S) p b o len cap := by
  cases p with
  | ro => trivial
  | full => exact hp
  | nil => exact hp
  | tok s => simpa [PermOk, TokOk, Mp.cut, h s rfl] using hp

mutual
theorem AV.nf_mono {B S B' S' : Nat} (hb : B ≤ B') (hs : S ≤ S') : ∀ (x : AV), x.nf B S = true → x.nf B' S' = true
  | .junk, _ | .bool _, _ | .int _ _, _ | .str _, _ | .nilptr, _ | .nilIface, _ | .nilFunc, _ | .hdl _, _ | .sent _, _ => rfl
  | .ptr n _, h | .map n, h | .iter n, h | .yield n, h => by simp [AV.nf] at h ⊢; omega
  | .eptr _ _, _ => rfl
  | .optr s _ _, h | .oslice s _, h => by simp [AV.nf] at h ⊢; omega
  | .sdata _ p, h => by cases p <;> simp [AV.nf] at h ⊢; omega
  | .slice _ p, h => by cases p <;> simp [AV.nf] at h ⊢; omega
  | .iface _ v, h => by simp only [AV.nf] at h ⊢; exact AV.nf_mono hb hs v h
  | .func _ cs, h => by simp only [AV.nf] at h ⊢; exact nfL_mono hb hs cs h
  | .agg cs, h => by simp only [AV.nf] at h ⊢; exact nfL_mono hb hs cs h
  | .tup cs, h => by simp only [AV.nf] at h ⊢; exact nfL_mono hb hs cs h
theorem nfL_mono {B S B' S' : Nat} (hb : B ≤ B') (hs : S ≤ S') : ∀ (xs : List AV), nfL B S xs = true → nfL B' S' xs = true
  | [], _ => rfl
  | v :: vs, h => by
    simp only [nfL, Bool.and_eq_true] at h ⊢
    exact ⟨AV.nf_mono hb hs v h.1, nfL_mono hb hs vs h.2⟩
end

/-- A value that names nothing from B, S on stands for the same thing in the map that is cut there. -/
theorem VRel.cut {M : Mp} {B S : Nat} (hG : G ≤ B) {x : AV} {c : Value} (h : VRel P G M x c) (hx : x.nf B S = true) : VRel P G (M.cut B S) x c := by
  induction h with
  | junk => exact .junk
  | bool => exact .bool
  | int => exact .int
  | str h => exact .str h
  | nilptr => exact .nilptr
  | ptr h => simp [AV.nf] at hx; exact .ptr (by simp [Mp.cut, hx, h])
  | eptr cv hn hp _ ih => exact .eptr cv hn hp (fun i hi => ih i hi (AV.nf_mono hG (Nat.zero_le _) _ (hn i hi)))
  | optr h => simp [AV.nf] at hx; exact .optr (by simpa [ElemOk, Mp.cut, hx] using h)
  | sdata cv hn hp _ hs ih =>
    exact .sdata cv hn hp (fun i hi => ih i hi (AV.nf_mono hG (Nat.zero_le _) _ (hn i hi))) (hs.cut (by rintro s rfl; simpa [AV.nf] using hx))
  | sliceNil hp => exact .sliceNil hp
  | slice cv hs hp _ hc hk ih =>
    exact .slice cv hs hp (fun i hi => ih i hi (AV.nf_mono hG (Nat.zero_le _) _ (hs i hi).2.2)) hc (hk.cut (by rintro s rfl; simpa [AV.nf] using hx))
  | oslice h hc => simp [AV.nf] at hx; exact .oslice (by simpa [OwnOk, Mp.cut, hx] using h) hc
  | iface _ ih => simp only [AV.nf] at hx; exact .iface (ih hx)
  | nilIface => exact .nilIface
  | func hl _ ih => simp only [AV.nf] at hx; exact .func hl (fun i hi => ih i hi (nfL_get hx hi))
  | yield h => simp [AV.nf] at hx; exact .yield (by simp [Mp.cut, hx, h])
  | nilFunc => exact .nilFunc
  | agg hl _ ih => simp only [AV.nf] at hx; exact .agg hl (fun i hi => ih i hi (nfL_get hx hi))
  | tup hl _ ih => simp only [AV.nf] at hx; exact .tup hl (fun i hi => ih i hi (nfL_get hx hi))
  | map h => simp [AV.nf] at hx; exact .map (by simp [Mp.cut, hx, h])
  | iter h => simp [AV.nf] at hx; exact .iter (by simp [Mp.cut, hx, h])
  | hdl => exact .hdl
  | sent h => exact .sent h
end
end Am
end
section
namespace Am
open Go

/-- a block that is a variable's, a map's, an iterator's or a loop's: nothing of it is frozen, and it is no view -/
def BoxObj (w : World) (b : Nat) : Prop :=
  (∀ o, w.frozen? ⟨b, o, none⟩ = false) ∧ ∃ x, w.heap[b]? = some x ∧ match x with
    | .cells .. | .map .. | .stringIter .. | .loop .. => True
    | _ => False

/-- variables that are only pointed at, and told apart: none of them is a box's or a slot's -/
structure SentOk (M : Mp) (w : World) : Prop where
  inj : ∀ i j a, M.sent i = some a → M.sent j = some a → i = j
  obj : ∀ i a, M.sent i = some a → ∃ c t, w.heap[a.block]? = some (.cells c t (0, 0))
  box : ∀ i a n, M.sent i = some a → M.box n ≠ some a.block
  slot : ∀ i a s r, M.sent i = some a → M.slot s = .live r → r.b ≠ a.block

theorem SentOk.lt {M : Mp} {w : World} (k : SentOk M w) {i : Nat} {a : Addr} (h : M.sent i = some a) : a.block < w.heap.size := by
  obtain ⟨c, t, e⟩ := k.obj i a h
  rcases Nat.lt_or_ge a.block w.heap.size with h' | h'
  · exact h'
  · rw [Array.getElem?_eq_none h'] at e; cases e

theorem SentOk.step {M M' : Mp} {w w' : World} (k : SentOk M w) (hs : M'.sent = M.sent) (hh : ∀ i a, M.sent i = some a → w'.heap[a.block]? = w.heap[a.block]?)
    (hb : ∀ n b, M'.box n = some b → M.box n = some b ∨ w.heap.size ≤ b)
    (hl : ∀ s r, M'.slot s = .live r → (∃ s0 r0, M.slot s0 = .live r0 ∧ r0.b = r.b) ∨ w.heap.size ≤ r.b) : SentOk M' w' where
  inj := by rw [hs]; exact k.inj
  obj := fun i a h => by rw [hs] at h; rw [hh i a h]; exact k.obj i a h
  box := fun i a n h e => by
    rw [hs] at h
    rcases hb n _ e with e | e
    · exact k.box i a n h e
    · have := k.lt h; omega
  slot := fun i a s r h e q => by
    rw [hs] at h
    rcases hl s r e with ⟨s0, r0, e0, q0⟩ | e
    · exact k.slot i a s0 r0 h e0 (by rw [q0, q])
    · have := k.lt h; omega

/-- the map and the world fit each other, whatever the heap holds -/
structure MOk (G : Nat) (M : Mp) (w : World) : Prop where
  pins : ∀ b o v, M.pin b o = some v → w.cell? ⟨b, o, none⟩ = some v
  boxlt : ∀ n b, M.box n = some b → b < w.heap.size
  boxinj : ∀ n n' b, M.box n = some b → M.box n' = some b → n = n'
  boxpin : ∀ n b o, G ≤ n → M.box n = some b → M.pin b o = none
  boxobj : ∀ n b, M.box n = some b → BoxObj w b
  slotlt : ∀ s r, M.slot s = .live r → r.b < w.heap.size
  slotbox : ∀ s r n, M.slot s = .live r → M.box n ≠ some r.b
  slotinj : ∀ s s' r r', M.slot s = .live r → M.slot s' = .live r' → r.b = r'.b → s = s'
  slotpin : ∀ s r j, M.slot s = .live r → r.n * r.sz ≤ j → j < r.cap * r.sz → M.pin r.b (r.o + j) = none
  sents : SentOk M w

def PendRel : Option Ex → Option Code → Prop
  | none, none => True
  | some .ret, some .ret => True
  | some (.exit id), some (.exit id') => id = id'
  | _, _ => False

def StRel : LState → LoopState → Prop
  | .ready, .ready => True
  | .busy, _ => True
  | .done, .done => True
  | .done, .exhausted => True
  | _, _ => False

def ERel (P : Program) (G : Nat) (M : Mp) (env : Env) (tmps : Array Value) : Prop :=
  ∀ i, VRel P G M (env.get i) (tmps.getD i undef)

/-- how the decoder takes a first byte -/
def fstT (c : Nat) : Int :=
  if c < 128 then 240 else if c < 194 then 241 else if c < 224 then 2 else if c < 225 then 19 else if c < 237 then 3 else if c < 238 then 35 else if c < 240 then 3
  else if c < 241 then 52 else if c < 244 then 4 else if c < 245 then 68 else 241
/-- what may stand second -/
def accA (i : Nat) : Int := if i = 0 then 128 else if i = 1 then 160 else if i = 2 then 128 else if i = 3 then 144 else if i = 4 then 128 else 0
def accB (i : Nat) : Int := if i = 0 then 191 else if i = 1 then 191 else if i = 2 then 159 else if i = 3 then 191 else if i = 4 then 143 else 0

/-- what three of the library's own variables hold: a bound, and the decoder's two tables -/
def LaidOk : Nat → Array Value → Prop
  | 0, arr => ∃ n, arr[0]? = some (.int .i64 n)
  | 1, arr => ∀ i, i < 256 → arr[i]? = some (.int .u8 (fstT i))
  | 2, arr => ∀ i, i < 16 → arr[2 * i]? = some (.int .u8 (accA i)) ∧ arr[2 * i + 1]? = some (.int .u8 (accB i))
  | _, _ => False

/-- the object at a block stands for the abstract one -/
def ORel (P : Program) (G : Nat) (M : Mp) (w : World) (b : Nat) : Obj → Prop
  | .dead => True
  | .laid k => ∃ arr el fz, w.heap[b]? = some (.cells arr el fz) ∧ (∀ o, w.frozen? ⟨b, o, none⟩ = false) ∧ LaidOk k arr
  | .cells ty cs => ∃ (arr : Array Value) (el : { x : Nat // x = ty }) (fz : Nat × Nat), w.heap[b]? = some (.cells arr el.1 fz) ∧ (∀ o, w.frozen? ⟨b, o, none⟩ = false) ∧ arr.size = cs.length ∧
      ∀ i, i < cs.length → VRel P G M (cs.getD i .junk) (arr.getD i undef)
  | .amap es => ∃ ents clock, w.heap[b]? = some (.map ents clock) ∧ ents.size = es.length ∧
      ∀ (i : Nat) (e : AV × AV), es[i]? = some e → ∃ c : MapEntry, ents[i]? = some c ∧ VRel P G M e.1 c.key ∧ VRel P G M e.2 c.val
  | .siter s pos => ∃ a, w.heap[b]? = some (.stringIter a pos) ∧ a.data.toList = s
  | .loop env ps as bd st pend => ∃ l own, w.heap[b]? = some (.loop l) ∧ ERel P G M env l.tmps ∧ l.params.toList = ps ∧ trC P own l.assign = as ∧ trC P own l.body = bd ∧
      StRel st l.state ∧ PendRel pend l.pending ∧ dstOk l.tmps.size as = true ∧ dstOk l.tmps.size bd = true ∧ (∀ p ∈ ps, p < l.tmps.size)

def SRel (P : Program) (G : Nat) (M : Mp) (w : World) (s : Nat) (x : SObj) : Prop :=
  ∃ r, M.slot s = .live r ∧ ∃ arr el fz, w.heap[r.b]? = some (.cells arr el fz) ∧ r.cap * r.sz ≤ arr.size ∧ (fz.1 = fz.2 ∨ fz.2 ≤ r.n * r.sz) ∧ r.o = 0 ∧ r.n ≤ r.cap ∧
    match x with
    | .perm e => e = el ∧ sizeT P e = some r.sz
    | .arr sz xs => r.sz = sz ∧ r.n = 0 ∧ xs.length ≤ r.cap ∧ ∃ cv : Nat → Value, ∀ i, i < xs.length →
        (cv i).cells.size = r.sz ∧ (xs.getD i .junk).cells?.isSome ∧ (xs.getD i .junk).nf G 0 ∧ VRel P G M (xs.getD i .junk) (cv i) ∧
        ∀ j, j < r.sz → w.cell? ⟨r.b, i * r.sz + j, none⟩ = some ((cv i).cells.getD j undef)

structure HOk (h : Heap) : Prop where
  len : h.boxes.length = h.nb
  live : ∀ p ∈ h.live, p.1 < h.ns
  base : h.base ≤ h.nb
  sbase : h.sbase ≤ h.ns

structure Good (P : Program) (G : Nat) (T : Loc → Prop) (M : Mp) (h : Heap) (w : World) : Prop where
  mok : MOk G M w
  glob : ∀ g, g < P.globals.size → M.box g = some g
  gle : G ≤ h.nb
  nbeq : M.nb = h.nb
  nseq : M.ns = h.ns
  hok : HOk h
  fbox : ∀ n, h.nb ≤ n → M.box n = none
  fslot : ∀ s, h.ns ≤ s → M.slot s = .unborn
  boxes : ∀ n o, T (.b n) → h.get n = some o → ∃ b, M.box n = some b ∧ ORel P G M w b o
  slots : ∀ s x, T (.s s) → h.slot s = some x → SRel P G M w s x

def OwnedBy (W : Loc → Prop) (M : Mp) (b : Nat) : Prop :=
  (∃ n, W (.b n) ∧ M.box n = some b) ∨ (∃ s r, W (.s s) ∧ M.slot s = .live r ∧ r.b = b)

/-- what the world told and what it stands on are the same -/
def SameIO (w w' : World) : Prop := w'.os = w.os ∧ w'.output = w.output

/-- what a piece of the run does to the map and to memory: it writes what W lets it write -/
structure Stp (W : Loc → Prop) (M : Mp) (w : World) (M' : Mp) (w' : World) : Prop where
  le : M.Le M'
  size : w.heap.size ≤ w'.heap.size
  frame : ∀ b, b < w.heap.size → ¬ OwnedBy W M b → w'.heap[b]? = w.heap[b]?
  extb : ∀ n b, M'.box n = some b → M.box n = some b ∨ (w.heap.size ≤ b ∧ M.nb ≤ n)
  exts : ∀ s r, M'.slot s = .live r → M.slot s = .live r ∨ w.heap.size ≤ r.b ∨ ∃ s0 r0, W (.s s0) ∧ M.slot s0 = .live r0 ∧ r0.b = r.b
  extp : ∀ b o v, M'.pin b o = some v → M.pin b o = some v ∨ w.heap.size ≤ b ∨ ∃ s0 r0, W (.s s0) ∧ M.slot s0 = .live r0 ∧ r0.b = b
  news : ∀ s, M'.slot s ≠ .unborn → M.slot s ≠ .unborn ∨ M.ns ≤ s
  nbl : M.nb ≤ M'.nb
  nsl : M.ns ≤ M'.ns
  slk : ∀ s r, M.slot s = .live r → ¬ W (.s s) → M'.slot s = .live r
  io : SameIO w w'

theorem Stp.refl (W : Loc → Prop) (M : Mp) (w : World) : Stp W M w M w :=
  ⟨.refl M, Nat.le_refl _, fun _ _ _ => rfl, fun _ _ h => .inl h, fun _ _ h => .inl h, fun _ _ _ h => .inl h, fun _ h => .inl h, Nat.le_refl _, Nat.le_refl _, fun _ _ h _ => h, ⟨rfl, rfl⟩⟩

theorem Stp.trans {W : Loc → Prop} {M M1 M2 : Mp} {w w1 w2 : World} (h : Stp W M w M1 w1) (h' : Stp W M1 w1 M2 w2) : Stp W M w M2 w2 := by
  refine ⟨h.le.trans h'.le, Nat.le_trans h.size h'.size, ?_, ?_, ?_, ?_, ?_, Nat.le_trans h.nbl h'.nbl, Nat.le_trans h.nsl h'.nsl, fun s r hs hw => h'.slk s r (h.slk s r hs hw) hw, ⟨h'.io.1.trans h.io.1, h'.io.2.trans h.io.2⟩⟩
  · intro b hb ho
    rw [h'.frame b (Nat.lt_of_lt_of_le hb h.size) ?_, h.frame b hb ho]
    rintro (⟨n, hn, hb'⟩ | ⟨s, r, hs, hr, rfl⟩)
    · rcases h.extb n b hb' with h1 | h1
      · exact ho (.inl ⟨n, hn, h1⟩)
      · omega
    · rcases h.exts s r hr with h1 | h1 | ⟨s0, r0, h2, h3, h4⟩
      · exact ho (.inr ⟨s, r, hs, h1, rfl⟩)
      · omega
      · exact ho (.inr ⟨s0, r0, h2, h3, h4⟩)
  · intro n b hb
    rcases h'.extb n b hb with h1 | h1
    · exact h.extb n b h1
    · exact .inr ⟨Nat.le_trans h.size h1.1, Nat.le_trans h.nbl h1.2⟩
  · intro s r hr
    rcases h'.exts s r hr with h1 | h1 | ⟨s0, r0, h2, h3, h4⟩
    · exact h.exts s r h1
    · exact .inr (.inl (Nat.le_trans h.size h1))
    · rcases h.exts s0 r0 h3 with h5 | h5 | ⟨s1, r1, h6, h7, h8⟩
      · exact .inr (.inr ⟨s0, r0, h2, h5, h4⟩)
      · exact .inr (.inl (h4 ▸ h5))
      · exact .inr (.inr ⟨s1, r1, h6, h7, h8.trans h4⟩)
  · intro b o v hv
    rcases h'.extp b o v hv with h1 | h1 | ⟨s0, r0, h2, h3, h4⟩
    · exact h.extp b o v h1
    · exact .inr (.inl (Nat.le_trans h.size h1))
    · rcases h.exts s0 r0 h3 with h5 | h5 | ⟨s1, r1, h6, h7, h8⟩
      · exact .inr (.inr ⟨s0, r0, h2, h5, h4⟩)
      · exact .inr (.inl (h4 ▸ h5))
      · exact .inr (.inr ⟨s1, r1, h6, h7, h8.trans h4⟩)
  · intro s hs
    rcases h'.news s hs with h1 | h1
    · exact h.news s h1
    · exact .inr (Nat.le_trans h.nsl h1)

/-- what is touched and written lies in T and in W; so does all that is the frame's own -/
structure Cov (T W : Loc → Prop) (h : Heap) : Prop where
  t : ∀ l ∈ h.t, T l
  w : ∀ l ∈ h.w, W l
  ownb : ∀ n, h.base ≤ n → T (.b n) ∧ W (.b n)
  owns : ∀ s, h.sbase ≤ s → T (.s s) ∧ W (.s s)

/-- h' comes of h by evaluation: the logs grow, the bases stay -/
structure Grow (h h' : Heap) : Prop where
  base : h'.base = h.base
  sbase : h'.sbase = h.sbase
  t : ∃ l, h'.t = l ++ h.t
  w : ∃ l, h'.w = l ++ h.w

theorem Grow.refl (h : Heap) : Grow h h := ⟨rfl, rfl, ⟨[], rfl⟩, ⟨[], rfl⟩⟩
theorem Grow.trans {h h1 h2 : Heap} (g : Grow h h1) (g' : Grow h1 h2) : Grow h h2 := by
  obtain ⟨l, hl⟩ := g.t
  obtain ⟨l', hl'⟩ := g'.t
  obtain ⟨k, hk⟩ := g.w
  obtain ⟨k', hk'⟩ := g'.w
  exact ⟨g'.base.trans g.base, g'.sbase.trans g.sbase, ⟨l' ++ l, by rw [hl', hl, List.append_assoc]⟩, ⟨k' ++ k, by rw [hk', hk, List.append_assoc]⟩⟩

theorem Cov.of_grow {T W : Loc → Prop} {h h' : Heap} (g : Grow h h') (c : Cov T W h') : Cov T W h := by
  obtain ⟨l, hl⟩ := g.t
  obtain ⟨k, hk⟩ := g.w
  exact ⟨fun x hx => c.t x (hl ▸ List.mem_append_right _ hx), fun x hx => c.w x (hk ▸ List.mem_append_right _ hx),
    fun n hn => c.ownb n (g.base ▸ hn), fun s hs => c.owns s (g.sbase ▸ hs)⟩

/-! ### heaps -/

theorem Heap.get_push_same (h : Heap) (o : Obj) : (h.push o).get h.nb = some o := by
  simp [Heap.get, Heap.push]

theorem Heap.get_push_old (h : Heap) (o : Obj) {n : Nat} (hn : n < h.nb) : (h.push o).get n = h.get n := by
  have h1 : n < h.nb + 1 := by omega
  have h2 : h.nb - n = (h.nb - 1 - n) + 1 := by omega
  simp [Heap.get, Heap.push, hn, h1, h2]

theorem Heap.get_lt {h : Heap} {n : Nat} {o : Obj} (e : h.get n = some o) : n < h.nb := by
  unfold Heap.get at e
  split at e
  · assumption
  · cases e

theorem Heap.get_put_same (h : Heap) (o : Obj) {n : Nat} {o' : Obj} (e : h.get n = some o') : (h.put n o).get n = some o := by
  have hn := Heap.get_lt e
  simp only [Heap.get, hn, if_true] at e
  have := List.getElem?_eq_some_iff.1 e
  obtain ⟨hlt, _⟩ := this
  simp [Heap.get, Heap.put, hn, hlt]

theorem Heap.get_put_ne (h : Heap) (o : Obj) {n m : Nat} (hn : n < h.nb) (hnm : m ≠ n) : (h.put n o).get m = h.get m := by
  simp only [Heap.get, Heap.put]
  by_cases hm : m < h.nb
  · simp only [hm, if_true]
    have : h.nb - 1 - n ≠ h.nb - 1 - m := by omega
    rw [List.getElem?_set_ne this]
  · simp only [hm, if_false]

@[simp] theorem Heap.get_rd (h : Heap) (n m : Nat) : (h.rd n).get m = h.get m := by unfold Heap.rd; split <;> rfl
@[simp] theorem Heap.get_wr (h : Heap) (n m : Nat) : (h.wr n).get m = h.get m := by unfold Heap.wr; split <;> rfl
@[simp] theorem Heap.get_rdS (h : Heap) (n m : Nat) : (h.rdS n).get m = h.get m := by unfold Heap.rdS; split <;> rfl
@[simp] theorem Heap.get_wrS (h : Heap) (n m : Nat) : (h.wrS n).get m = h.get m := by unfold Heap.wrS; split <;> rfl
@[simp] theorem Heap.slot_rd (h : Heap) (n m : Nat) : (h.rd n).slot m = h.slot m := by unfold Heap.rd; split <;> rfl
@[simp] theorem Heap.slot_wr (h : Heap) (n m : Nat) : (h.wr n).slot m = h.slot m := by unfold Heap.wr; split <;> rfl
@[simp] theorem Heap.slot_rdS (h : Heap) (n m : Nat) : (h.rdS n).slot m = h.slot m := by unfold Heap.rdS; split <;> rfl
@[simp] theorem Heap.slot_wrS (h : Heap) (n m : Nat) : (h.wrS n).slot m = h.slot m := by unfold Heap.wrS; split <;> rfl
@[simp] theorem Heap.nb_rd (h : Heap) (n : Nat) : (h.rd n).nb = h.nb := by unfold Heap.rd; split <;> rfl
@[simp] theorem Heap.nb_wr (h : Heap) (n : Nat) : (h.wr n).nb = h.nb := by unfold Heap.wr; split <;> rfl
@[simp] theorem Heap.nb_rdS (h : Heap) (n : Nat) : (h.rdS n).nb = h.nb := by unfold Heap.rdS; split <;> rfl
@[simp] theorem Heap.nb_wrS (h : Heap) (n : Nat) : (h.wrS n).nb = h.nb := by unfold Heap.wrS; split <;> rfl
@[simp] theorem Heap.ns_rd (h : Heap) (n : Nat) : (h.rd n).ns = h.ns := by unfold Heap.rd; split <;> rfl
@[simp] theorem Heap.ns_wr (h : Heap) (n : Nat) : (h.wr n).ns = h.ns := by unfold Heap.wr; split <;> rfl
@[simp] theorem Heap.ns_rdS (h : Heap) (n : Nat) : (h.rdS n).ns = h.ns := by unfold Heap.rdS; split <;> rfl
@[simp] theorem Heap.ns_wrS (h : Heap) (n : Nat) : (h.wrS n).ns = h.ns := by unfold Heap.wrS; split <;> rfl

theorem addL_suffix (l : Loc) (w : List Loc) : ∃ k, addL l w = k ++ w := by
  unfold addL; split
  · exact ⟨[], rfl⟩
  · exact ⟨[l], rfl⟩
theorem mem_addL {l x : Loc} {w : List Loc} : x ∈ addL l w ↔ x = l ∨ x ∈ w := by
  unfold addL; split
  · rename_i h
    rw [List.contains_iff_mem] at h
    exact ⟨.inr, fun e => e.elim (fun e => e ▸ h) id⟩
  · simp

theorem HOk.rd {h : Heap} (k : HOk h) (n : Nat) : HOk (h.rd n) := by
  unfold Heap.rd; split
  · exact ⟨k.len, k.live, k.base, k.sbase⟩
  · exact k
theorem HOk.wr {h : Heap} (k : HOk h) (n : Nat) : HOk (h.wr n) := by
  unfold Heap.wr; split
  · exact ⟨k.len, k.live, k.base, k.sbase⟩
  · exact k
theorem HOk.rdS {h : Heap} (k : HOk h) (n : Nat) : HOk (h.rdS n) := by
  unfold Heap.rdS; split
  · exact ⟨k.len, k.live, k.base, k.sbase⟩
  · exact k
theorem HOk.wrS {h : Heap} (k : HOk h) (n : Nat) : HOk (h.wrS n) := by
  unfold Heap.wrS; split
  · exact ⟨k.len, k.live, k.base, k.sbase⟩
  · exact k
theorem HOk.push {h : Heap} (k : HOk h) (o : Obj) : HOk (h.push o) :=
  ⟨by simp [Heap.push, k.len], k.live, Nat.le_trans k.base (Nat.le_succ _), k.sbase⟩
theorem HOk.put {h : Heap} (k : HOk h) (n : Nat) (o : Obj) : HOk (h.put n o) :=
  ⟨by simp [Heap.put, k.len], k.live, k.base, k.sbase⟩

theorem Grow.rd (h : Heap) (n : Nat) : Grow h (h.rd n) := by
  unfold Heap.rd; split
  · exact ⟨rfl, rfl, ⟨[_], rfl⟩, ⟨[], rfl⟩⟩
  · exact .refl _
theorem Grow.wr (h : Heap) (n : Nat) : Grow h (h.wr n) := by
  unfold Heap.wr; split
  · exact ⟨rfl, rfl, ⟨[_], rfl⟩, addL_suffix _ _⟩
  · exact .refl _
theorem Grow.rdS (h : Heap) (n : Nat) : Grow h (h.rdS n) := by
  unfold Heap.rdS; split
  · exact ⟨rfl, rfl, ⟨[_], rfl⟩, ⟨[], rfl⟩⟩
  · exact .refl _
theorem Grow.wrS (h : Heap) (n : Nat) : Grow h (h.wrS n) := by
  unfold Heap.wrS; split
  · exact ⟨rfl, rfl, ⟨[_], rfl⟩, addL_suffix _ _⟩
  · exact .refl _
theorem Grow.push (h : Heap) (o : Obj) : Grow h (h.push o) := ⟨rfl, rfl, ⟨[], rfl⟩, ⟨[], rfl⟩⟩
theorem Grow.put (h : Heap) (n : Nat) (o : Obj) : Grow h (h.put n o) := ⟨rfl, rfl, ⟨[], rfl⟩, ⟨[], rfl⟩⟩
theorem Grow.unslot (h : Heap) (s : Nat) : Grow h (h.unslot s) := ⟨rfl, rfl, ⟨[], rfl⟩, ⟨[], rfl⟩⟩
theorem Grow.newSlot (h : Heap) (o : SObj) : Grow h (h.newSlot o) := ⟨rfl, rfl, ⟨[], rfl⟩, ⟨[], rfl⟩⟩

/-- what a read notes lies in T -/
theorem Cov.of_rd {T W : Loc → Prop} {h : Heap} {n : Nat} (c : Cov T W (h.rd n)) : T (.b n) := by
  unfold Heap.rd at c
  split at c
  · exact c.t _ (List.mem_cons_self ..)
  · exact (c.ownb n (by omega)).1
theorem Cov.of_wr {T W : Loc → Prop} {h : Heap} {n : Nat} (c : Cov T W (h.wr n)) : T (.b n) ∧ W (.b n) := by
  unfold Heap.wr at c
  split at c
  · exact ⟨c.t _ (List.mem_cons_self ..), c.w _ (mem_addL.2 (.inl rfl))⟩
  · exact c.ownb n (by omega)
theorem Cov.of_rdS {T W : Loc → Prop} {h : Heap} {n : Nat} (c : Cov T W (h.rdS n)) : T (.s n) := by
  unfold Heap.rdS at c
  split at c
  · exact c.t _ (List.mem_cons_self ..)
  · exact (c.owns n (by omega)).1
theorem Cov.of_wrS {T W : Loc → Prop} {h : Heap} {n : Nat} (c : Cov T W (h.wrS n)) : T (.s n) ∧ W (.s n) := by
  unfold Heap.wrS at c
  split at c
  · exact ⟨c.t _ (List.mem_cons_self ..), c.w _ (mem_addL.2 (.inl rfl))⟩
  · exact c.owns n (by omega)

section
variable {P : Program} {G : Nat} {T : Loc → Prop} {M : Mp} {h : Heap} {w : World}

theorem Good.rd (g : Good P G T M h w) (n : Nat) : Good P G T M (h.rd n) w :=
  ⟨g.mok, g.glob, by simpa using g.gle, by simpa using g.nbeq, by simpa using g.nseq, g.hok.rd n, by simpa using g.fbox, by simpa using g.fslot, by simpa using g.boxes, by simpa using g.slots⟩
theorem Good.wr (g : Good P G T M h w) (n : Nat) : Good P G T M (h.wr n) w :=
  ⟨g.mok, g.glob, by simpa using g.gle, by simpa using g.nbeq, by simpa using g.nseq, g.hok.wr n, by simpa using g.fbox, by simpa using g.fslot, by simpa using g.boxes, by simpa using g.slots⟩
theorem Good.rdS (g : Good P G T M h w) (n : Nat) : Good P G T M (h.rdS n) w :=
  ⟨g.mok, g.glob, by simpa using g.gle, by simpa using g.nbeq, by simpa using g.nseq, g.hok.rdS n, by simpa using g.fbox, by simpa using g.fslot, by simpa using g.boxes, by simpa using g.slots⟩
theorem Good.wrS (g : Good P G T M h w) (n : Nat) : Good P G T M (h.wrS n) w :=
  ⟨g.mok, g.glob, by simpa using g.gle, by simpa using g.nbeq, by simpa using g.nseq, g.hok.wrS n, by simpa using g.fbox, by simpa using g.fslot, by simpa using g.boxes, by simpa using g.slots⟩
end
end Am
end
section
namespace Am
open Go

inductive F2 {α β : Type} (R : α → β → Prop) : List α → List β → Prop where
  | nil : F2 R [] []
  | cons {a : α} {b : β} {as : List α} {bs : List β} (h : R a b) (t : F2 R as bs) : F2 R (a :: as) (b :: bs)

theorem F2.length {α β : Type} {R : α → β → Prop} {as : List α} {bs : List β} (h : F2 R as bs) : as.length = bs.length := by
  induction h with
  | nil => rfl
  | cons _ _ ih => simp [ih]

theorem F2.imp {α β : Type} {R S : α → β → Prop} (hi : ∀ a b, R a b → S a b) {as : List α} {bs : List β} (h : F2 R as bs) : F2 S as bs := by
  induction h with
  | nil => exact .nil
  | cons h _ ih => exact .cons (hi _ _ h) ih

theorem F2.append {α β : Type} {R : α → β → Prop} {as cs : List α} {bs ds : List β} (h : F2 R as bs) (h' : F2 R cs ds) : F2 R (as ++ cs) (bs ++ ds) := by
  induction h with
  | nil => exact h'
  | cons h _ ih => exact .cons h ih

def LRel (P : Program) (G : Nat) (M : Mp) (cs : List AV) (vs : Array Value) : Prop :=
  vs.size = cs.length ∧ ∀ i, i < cs.length → VRel P G M (cs.getD i .junk) (vs.getD i undef)

section
variable {P : Program} {G : Nat} {M : Mp}

theorem LRel.mono {M' : Mp} (hm : M.Le M') {cs : List AV} {vs : Array Value} (h : LRel P G M cs vs) : LRel P G M' cs vs :=
  ⟨h.1, fun i hi => (h.2 i hi).mono hm⟩

theorem LRel.agg {cs : List AV} {vs : Array Value} (h : LRel P G M cs vs) : VRel P G M (.agg cs) (.agg vs) := .agg h.1 h.2
theorem LRel.tup {cs : List AV} {vs : Array Value} (h : LRel P G M cs vs) : VRel P G M (.tup cs) (.tuple vs) := .tup h.1 h.2

theorem LRel.nil : LRel P G M [] #[] := ⟨rfl, fun i hi => by simp at hi⟩

theorem LRel.cons {x : AV} {c : Value} {cs : List AV} {vs : List Value} (hx : VRel P G M x c) (h : LRel P G M cs vs.toArray) :
    LRel P G M (x :: cs) (c :: vs).toArray := by
  refine ⟨by have := h.1; simp at this ⊢; exact this, fun i hi => ?_⟩
  cases i with
  | zero => simpa [Array.getD] using hx
  | succ i =>
    have := h.2 i (by simpa using hi)
    have e := h.1
    simp only [List.size_toArray] at e
    simpa [Array.getD, e] using this

theorem LRel.of_forall2 {cs : List AV} {vs : List Value} (h : F2 (VRel P G M) cs vs) : LRel P G M cs vs.toArray := by
  induction h with
  | nil => exact .nil
  | cons hx _ ih => exact .cons hx ih

theorem LRel.forall2 : ∀ {cs : List AV} {vs : List Value}, LRel P G M cs vs.toArray → F2 (VRel P G M) cs vs
  | [], [], _ => .nil
  | [], _ :: _, h => by have := h.1; simp at this
  | _ :: _, [], h => by have := h.1; simp at this
  | x :: cs, c :: vs, h => by
    refine .cons ?_ (LRel.forall2 ⟨?_, fun i hi => ?_⟩)
    · simpa [Array.getD] using h.2 0 (by simp)
    · have := h.1; simp at this ⊢; exact this
    · have := h.2 (i + 1) (by simpa using hi)
      have e := h.1
      simp at e
      simpa [Array.getD, e] using this

theorem lrel_iff {cs : List AV} {vs : Array Value} : LRel P G M cs vs ↔ F2 (VRel P G M) cs vs.toList := by
  constructor
  · intro h; exact LRel.forall2 (by simpa using h)
  · intro h; simpa using LRel.of_forall2 h

/-- the cells of a value -/
theorem cells_rel {x : AV} {c : Value} (h : VRel P G M x c) {cs : List AV} (hc : x.cells? = some cs) : LRel P G M cs c.cells := by
  cases h <;> simp only [AV.cells?, Option.some.injEq, reduceCtorEq] at hc <;> subst hc <;>
    first
      | (rename_i hl h; exact ⟨hl, h⟩)
      | (refine ⟨rfl, fun i hi => ?_⟩
         have hi0 : i = 0 := by simpa using hi
         subst hi0
         simp only [Value.cells, Array.getD, List.getD_cons_zero]
         first
           | exact .bool | exact .int | exact .nilptr | exact .nilIface | exact .nilFunc | exact .hdl
           | (constructor <;> assumption)
           | (exact .sliceNil (by assumption)))

/-- one cell, not a row of them -/
theorem scalar_rel {x : AV} {c : Value} (h : VRel P G M x c) (hs : x.scalar = true) : c.oneCell' = true := by
  cases h <;> first | rfl | (simp [AV.scalar] at hs; done) | (simp [typeHandle, Value.oneCell'])

theorem LRel.extract {cs : List AV} {vs : Array Value} (h : LRel P G M cs vs) (a n : Nat) (hn : a + n ≤ cs.length) :
    LRel P G M ((cs.drop a).take n) (vs.extract a (a + n)) := by
  have e := h.1
  refine ⟨by simp; omega, fun i hi => ?_⟩
  simp at hi
  have := h.2 (a + i) (by omega)
  have h1 : a + i < vs.size := by omega
  have h2 : i < min (a + n) vs.size - a := by omega
  simp only [List.getD_eq_getElem?_getD, Array.getD, h1, dif_pos] at this
  simp only [List.getD_eq_getElem?_getD, Array.getD]
  rw [List.getElem?_take]
  simp only [Array.size_extract, h2, dif_pos, Array.getInternal_eq_getElem, Array.getElem_extract]
  rw [if_pos (by omega), List.getElem?_drop]
  simpa using this

/-- a part of a row of cells, as a value of a type -/
theorem cellAt_agg {cs : List AV} {vs : Array Value} (h : LRel P G M cs vs) {sz off : Nat} {v : AV} (hv : cellAt true sz cs off = some v) :
    off + sz ≤ cs.length ∧ VRel P G M v (.agg (vs.extract off (off + sz))) := by
  simp only [cellAt, if_true] at hv
  split at hv
  · rename_i hle
    cases hv
    exact ⟨hle, (h.extract off sz hle).agg⟩
  · cases hv

theorem cellAt_one {cs : List AV} {vs : Array Value} (h : LRel P G M cs vs) {sz off : Nat} {v : AV} (hv : cellAt false sz cs off = some v) :
    off < cs.length ∧ VRel P G M v (vs.getD off undef) := by
  simp only [cellAt, Bool.false_eq_true, if_false] at hv
  have hlt : off < cs.length := (List.getElem?_eq_some_iff.1 hv).1
  have := h.2 off hlt
  rw [List.getD_eq_getElem?_getD, hv] at this
  exact ⟨hlt, this⟩

theorem LRel.set {cs : List AV} {vs : Array Value} (h : LRel P G M cs vs) (i : Nat) {x : AV} {c : Value} (hx : VRel P G M x c) :
    LRel P G M (cs.set i x) (vs.setIfInBounds i c) := by
  refine ⟨by simpa using h.1, fun j hj => ?_⟩
  simp at hj
  have e := h.1
  by_cases hij : i = j
  · subst hij
    simp [List.getD_eq_getElem?_getD, Array.getD, hj, e, hx]
  · have := h.2 j hj
    have hj' : j < vs.size := by omega
    simp only [List.getD_eq_getElem?_getD, Array.getD, hj', dif_pos] at this
    simp only [List.getD_eq_getElem?_getD, Array.getD, Array.size_setIfInBounds, hj', dif_pos, List.getElem?_set_ne hij, Array.getInternal_eq_getElem,
      Array.getElem_setIfInBounds_ne hj' hij]
    simpa using this

/-- writing a row of cells into one -/
def putV (vs : Array Value) (off : Nat) : List Value → Array Value
  | [] => vs
  | c :: cs => putV (vs.setIfInBounds off c) (off + 1) cs

theorem LRel.put : ∀ {xs : List AV} {ys : List Value} {cs : List AV} {vs : Array Value} {off : Nat}, LRel P G M cs vs → F2 (VRel P G M) xs ys →
    LRel P G M (putCells cs off xs) (putV vs off ys)
  | [], [], _, _, _, h, .nil => h
  | x :: xs, y :: ys, cs, vs, off, h, .cons hx hr => by
    simp only [putCells, putV]
    exact LRel.put (h.set off hx) hr

theorem putCells_length : ∀ (xs cs : List AV) (off : Nat), (putCells cs off xs).length = cs.length
  | [], _, _ => rfl
  | x :: xs, cs, off => by simp [putCells, putCells_length xs]

theorem putV_size : ∀ (xs : List Value) (vs : Array Value) (off : Nat), (putV vs off xs).size = vs.size
  | [], _, _ => rfl
  | x :: xs, cs, off => by simp [putV, putV_size xs]

theorem foldl_putV : ∀ (ys : List Value) (k : Nat) (vs : Array Value) (off : Nat),
    (ys.zipIdx k).foldl (fun cs (p : Value × Nat) => cs.setIfInBounds (off + p.2) p.1) vs = putV vs (off + k) ys
  | [], _, _, _ => rfl
  | y :: ys, k, vs, off => by
    simp only [List.zipIdx_cons, List.foldl_cons, putV]
    rw [foldl_putV ys (k + 1)]
    rfl

end
end Am
end
section
namespace Am
open Go

section
variable {P : Program} {G : Nat} {M : Mp}

theorem cvN_rel : ∀ (n : Nat) (v : Value) (x : AV), cvN n v = some x → VRel P G M x v
  | 0, _, _, h => by simp [cvN] at h
  | n + 1, v, x, h => by
    have ih : ∀ v x, cvN n v = some x → VRel P G M x v := cvN_rel n
    have hl : ∀ (cs : List Value) (xs : List AV), cs.mapM (cvN n) = some xs → F2 (VRel P G M) xs cs := by
      intro cs
      induction cs with
      | nil => intro xs h; simp at h; subst h; exact .nil
      | cons c cs ihc =>
        intro xs h
        simp only [List.mapM_cons, Option.bind_eq_bind, Option.pure_def] at h
        cases h1 : cvN n c with
        | none => simp [h1] at h
        | some y =>
          cases h2 : cs.mapM (cvN n) with
          | none => simp [h1, h2] at h
          | some ys =>
            simp [h1, h2] at h
            subst h
            exact .cons (ih c y h1) (ihc ys h2)
    cases v with
    | bool b => simp [cvN] at h; subst h; exact .bool
    | int k i => simp [cvN] at h; subst h; exact .int
    | float => simp [cvN] at h
    | complex => simp [cvN] at h
    | string s => simp [cvN] at h; subst h; exact .str rfl
    | pointer a =>
      cases a with
      | none => simp [cvN] at h; subst h; exact .nilptr
      | some a => simp [cvN] at h
    | slice a l c =>
      cases a with
      | none =>
        simp only [cvN] at h
        split at h
        · rename_i hh
          obtain ⟨rfl, rfl⟩ := hh
          simp at h; subst h
          exact .sliceNil (.inr (.inr rfl))
        · cases h
      | some a => simp [cvN] at h
    | map r =>
      cases r with
      | none => simp [cvN] at h; subst h; exact .junk
      | some r => simp [cvN] at h
    | chan => simp [cvN] at h
    | func fn a b =>
      cases fn with
      | func f =>
        simp only [cvN] at h
        split at h
        · rename_i hh
          have h1 : a = #[] := by simpa using hh.1
          have h2 : b = #[] := by simpa using hh.2
          subst h1 h2
          simp at h; subst h
          exact .func (vs := #[]) rfl (fun i hi => by simp at hi)
        · cases h
      | _ => simp [cvN] at h
    | nilFunc => simp [cvN] at h; subst h; exact .nilFunc
    | iface t v =>
      simp only [cvN] at h
      cases h1 : cvN n v with
      | none => simp [h1] at h
      | some y => simp [h1] at h; subst h; exact .iface (ih v y h1)
    | nilIface => simp [cvN] at h; subst h; exact .nilIface
    | agg cs =>
      simp only [cvN] at h
      cases h1 : cs.toList.mapM (cvN n) with
      | none => simp [h1] at h
      | some ys => simp [h1] at h; subst h; exact (lrel_iff.2 (hl _ _ h1)).agg
    | tuple cs =>
      simp only [cvN] at h
      cases h1 : cs.toList.mapM (cvN n) with
      | none => simp [h1] at h
      | some ys => simp [h1] at h; subst h; exact (lrel_iff.2 (hl _ _ h1)).tup

theorem cv_rel {v : Value} {x : AV} (h : cv v = some x) : VRel P G M x v := cvN_rel 8 v x h

/-- the globals' boxes -/
def Glob (P : Program) (M : Mp) : Prop := ∀ g, g < P.globals.size → M.box g = some g

theorem ev_rel (hg : Glob P M) {env : Env} {a : Act} (he : ERel P G M env a.tmps) {x : Operand} {ax : AO} (h : trO P x = some ax) :
    VRel P G M (ax.ev env) (a.eval x) := by
  cases x with
  | tmp t => simp [trO] at h; subst h; exact he t
  | const v =>
    simp only [trO, Option.map_eq_some_iff] at h
    obtain ⟨y, hy, rfl⟩ := h
    exact cv_rel hy
  | global g =>
    simp only [trO] at h
    split at h
    · rename_i hlt
      simp at h; subst h
      exact .ptr (hg g hlt)
    · cases h
  | func f => simp [trO] at h; subst h; exact .func (vs := #[]) rfl (fun i hi => by simp at hi)

theorem mapM_f2 {α β : Type} {f : α → Option β} : ∀ {xs : List α} {ys : List β}, xs.mapM f = some ys → F2 (fun x y => f x = some y) xs ys
  | [], ys, h => by simp at h; subst h; exact .nil
  | x :: xs, ys, h => by
    simp only [List.mapM_cons, Option.bind_eq_bind, Option.pure_def] at h
    cases h1 : f x with
    | none => simp [h1] at h
    | some y =>
      cases h2 : xs.mapM f with
      | none => simp [h1, h2] at h
      | some zs =>
        simp [h1, h2] at h
        subst h
        exact .cons h1 (mapM_f2 h2)

theorem evs_rel (hg : Glob P M) {env : Env} {a : Act} (he : ERel P G M env a.tmps) {xs : Array Operand} {as : List AO} (h : trOs P xs = some as) :
    LRel P G M (argsOf env as) (xs.map a.eval) := by
  have h1 := mapM_f2 h
  rw [lrel_iff, Array.toList_map]
  clear h
  generalize xs.toList = l at h1
  induction h1 with
  | nil => exact .nil
  | cons hx _ ih => exact .cons (ev_rel hg he hx) ih

theorem evo_rel (hg : Glob P M) {env : Env} {a : Act} (he : ERel P G M env a.tmps) {x : Option Operand} {ax : Option AO} (h : trOO P x = some ax) :
    (x = none ∧ ax = none) ∨ ∃ y ay, x = some y ∧ ax = some ay ∧ VRel P G M (ay.ev env) (a.eval y) := by
  cases x with
  | none => simp [trOO] at h; exact .inl ⟨rfl, h.symm⟩
  | some y =>
    simp only [trOO, Option.map_eq_some_iff] at h
    obtain ⟨ay, hy, rfl⟩ := h
    exact .inr ⟨y, ay, rfl, rfl, ev_rel hg he hy⟩

/-! ### inversion -/

theorem vr_bool {b : Bool} {c : Value} (h : VRel P G M (.bool b) c) : c = .bool b := by cases h; rfl
theorem vr_int {k : IntKind} {n : Int} {c : Value} (h : VRel P G M (.int k n) c) : c = .int k n := by cases h; rfl
theorem vr_str {s : List UInt8} {c : Value} (h : VRel P G M (.str s) c) : ∃ a, c = .string a ∧ a.data.toList = s := by cases h with | str h => exact ⟨_, rfl, h⟩

theorem toList_eq (a : ByteArray) : a.toList = a.data.toList := by
  have : ∀ (n : Nat) (i : Nat) (r : List UInt8), a.size - i = n → ByteArray.toList.loop a i r = r.reverse ++ (a.data.toList.drop i) := by
    intro n
    induction n with
    | zero =>
      intro i r h
      unfold ByteArray.toList.loop
      have h1 : ¬ i < a.size := by omega
      simp only [h1, if_false]
      have : a.data.toList.length ≤ i := by simpa using Nat.le_of_not_lt h1
      rw [List.drop_eq_nil_of_le this]
      simp
    | succ n ih =>
      intro i r h
      unfold ByteArray.toList.loop
      have h1 : i < a.size := by omega
      simp only [h1, if_true]
      rw [ih (i + 1) _ (by omega)]
      have h2 : i < a.data.toList.length := by simpa using h1
      rw [List.drop_eq_getElem_cons h2]
      have : a.get! i = a.data.toList[i] := by
        cases a with
        | mk bs =>
          have h3 : i < bs.size := h1
          simp [ByteArray.get!, h3]
      simp [this]
  have := this a.size 0 [] rfl
  simpa [ByteArray.toList] using this

theorem bytesLess_eq : ∀ (a b : List UInt8), Op.bytesLess a b = bytesLess a b
  | _, [] => by cases ‹List UInt8› <;> rfl
  | [], _ :: _ => rfl
  | a :: x, b :: y => by simp [Op.bytesLess, bytesLess, bytesLess_eq x y]

variable (w : World)

theorem bin_int {op : BinOp} {k : IntKind} {x y : Int} {v : AV} (h : binInt op k x y = some v) :
    ∃ c, (match op with
      | .add | .sub | .mul => Op.intArith op k x y
      | .quo | .rem => Op.intDiv op k x y
      | .and | .or | .xor | .andNot => Op.intBits op k x y
      | _ => Op.intCmp op x y).run P w = .ok c w ∧ VRel P G M v c := by
  cases op <;> simp only [binInt] at h <;> first
    | (cases h; done)
    | (simp only [Option.some.injEq] at h; subst h; refine ⟨_, rfl, ?_⟩; first | exact .int | exact .bool)
    | (split at h
       · cases h
       · rename_i hy
         simp only [Option.some.injEq] at h; subst h
         simp only [Op.intDiv, hy, if_false]
         exact ⟨_, rfl, .int⟩)

theorem bin_ok {op : BinOp} {t : TypeId} {x y v : AV} {a b : Value} (hx : VRel P G M x a) (hy : VRel P G M y b) (h : binA op x y = some v) :
    ∃ c, (binOp op t a b).run P w = .ok c w ∧ VRel P G M v c := by
  unfold binA at h
  split at h
  · have := vr_int hx; have := vr_int hy; subst_vars
    split at h
    · cases h
    · rename_i hb
      simp only [Option.some.injEq] at h; subst h
      simp only [binOp, Op.shift, hb, if_false]
      exact ⟨_, rfl, .int⟩
  · have := vr_int hx; have := vr_int hy; subst_vars
    split at h
    · cases h
    · rename_i hb
      simp only [Option.some.injEq] at h; subst h
      simp only [binOp, Op.shift, hb, if_false]
      exact ⟨_, rfl, .int⟩
  · rename_i op' k a k' b n1 n2
    have := vr_int hx; have := vr_int hy; subst_vars
    split at h
    · rename_i hk
      subst hk
      have := bin_int (P := P) (G := G) (M := M) w h
      cases op <;> first
        | (exact absurd rfl (n1 _ _ _ _ rfl rfl))
        | (exact absurd rfl (n2 _ _ _ _ rfl rfl))
        | (simpa [binOp] using this)
        | (simp [binInt] at h)
    · cases h
  all_goals try (simp at h; done)
  all_goals
    obtain ⟨a', rfl, ha⟩ := vr_str hx
    obtain ⟨b', rfl, hb⟩ := vr_str hy
    have e1 : a'.toList = _ := (toList_eq a').trans ha
    have e2 : b'.toList = _ := (toList_eq b').trans hb
  · split at h
    · cases h
    · rename_i hle
      simp only [Option.some.injEq] at h; subst h
      have hs : ¬ ((a'.size + b'.size : Nat) : Int) > IntKind.i64.max := by
        have h1 : a'.size = _ := (by simpa using congrArg List.length ha)
        have h2 : b'.size = _ := (by simpa using congrArg List.length hb)
        rw [h1, h2]; exact hle
      simp only [binOp, Op.stringOp, hs, if_false]
      exact ⟨_, rfl, .str (by simp [ha, hb])⟩
  all_goals
    simp only [Option.some.injEq] at h; subst h
    simp only [binOp, Op.stringOp, e1, e2, bytesLess_eq]
    exact ⟨_, rfl, .bool⟩

theorem un_ok {op : UnOp} {x v : AV} {a : Value} (hx : VRel P G M x a) (h : unA op x = some v) :
    ∃ c, (Op.unary op a).run P w = .ok c w ∧ VRel P G M v c := by
  unfold unA at h
  split at h
  · have := vr_bool hx; subst_vars
    simp only [Option.some.injEq] at h; subst h
    exact ⟨_, rfl, .bool⟩
  · have := vr_int hx; subst_vars
    simp only [Option.some.injEq] at h; subst h
    exact ⟨_, rfl, .int⟩
  · cases h
end
end Am
end
section
namespace Am
open Go

section
variable {P : Program} {G : Nat} {T W : Loc → Prop} {M M' : Mp} {h : Heap} {w w' : World}

theorem frozen_of_heap {w w' : World} {b : Nat} (hb : w'.heap[b]? = w.heap[b]?) (o : Nat) : w'.frozen? ⟨b, o, none⟩ = w.frozen? ⟨b, o, none⟩ := by
  simp [World.frozen?, hb]
theorem cell_of_heap {w w' : World} {b : Nat} (hb : w'.heap[b]? = w.heap[b]?) (o : Nat) : w'.cell? ⟨b, o, none⟩ = w.cell? ⟨b, o, none⟩ := by
  simp [World.cell?, hb]

theorem ERel.mono (hm : M.Le M') {env : Env} {tmps : Array Value} (h : ERel P G M env tmps) : ERel P G M' env tmps := fun i => (h i).mono hm

theorem ORel.keep (hm : M.Le M') {b : Nat} (hb : w'.heap[b]? = w.heap[b]?) {o : Obj} (h : ORel P G M w b o) : ORel P G M' w' b o := by
  cases o with
  | dead => trivial
  | laid k =>
    obtain ⟨arr, el, fz, h1, h2, h3⟩ := h
    exact ⟨arr, el, fz, hb ▸ h1, fun o => by rw [frozen_of_heap hb]; exact h2 o, h3⟩
  | cells ty cs =>
    obtain ⟨arr, el, fz, h1, h2, h3, h4⟩ := h
    exact ⟨arr, el, fz, hb ▸ h1, fun o => by rw [frozen_of_heap hb]; exact h2 o, h3, fun i hi => (h4 i hi).mono hm⟩
  | amap es =>
    obtain ⟨ents, clock, h1, h2, h3⟩ := h
    exact ⟨ents, clock, hb ▸ h1, h2, fun i e he => let ⟨c, hc, hk, hv⟩ := h3 i e he; ⟨c, hc, hk.mono hm, hv.mono hm⟩⟩
  | siter s pos =>
    obtain ⟨a, h1, h2⟩ := h
    exact ⟨a, hb ▸ h1, h2⟩
  | loop env ps as bd st pend =>
    obtain ⟨l, own, h1, h2, h3⟩ := h
    exact ⟨l, own, hb ▸ h1, h2.mono hm, h3⟩

theorem SRel.keep (hm : M.Le M') {s : Nat} {x : SObj} (h : SRel P G M w s x) (hs : M'.slot s = M.slot s)
    (hb : ∀ r, M.slot s = .live r → w'.heap[r.b]? = w.heap[r.b]?) : SRel P G M' w' s x := by
  obtain ⟨r, h1, arr, el, fz, h2, h3, h4, h5, h5', h6⟩ := h
  have hb := hb r h1
  refine ⟨r, hs ▸ h1, arr, el, fz, hb ▸ h2, h3, h4, h5, h5', ?_⟩
  cases x with
  | perm e => exact h6
  | arr sz xs =>
    obtain ⟨h7', h7, h8, cv, h9⟩ := h6
    exact ⟨h7', h7, h8, cv, fun i hi => let ⟨a, b, c, d, e⟩ := h9 i hi; ⟨a, b, c, d.mono hm, fun j hj => by rw [cell_of_heap hb]; exact e j hj⟩⟩

theorem alloc_heap_old (o : Go.Obj) {b : Nat} (hb : b < w.heap.size) : (w.alloc o).heap[b]? = w.heap[b]? := by
  simp only [World.alloc, Array.getElem?_push, Nat.ne_of_lt hb, if_false]

theorem alloc_heap_new (o : Go.Obj) : (w.alloc o).heap[w.heap.size]? = some o := by simp only [World.alloc, Array.getElem?_push_size]

/-! ### a new block that the map knows nothing of -/

theorem BoxObj.keep {b : Nat} (hb : w'.heap[b]? = w.heap[b]?) (k : BoxObj w b) : BoxObj w' b :=
  ⟨fun o => by rw [frozen_of_heap hb]; exact k.1 o, by rw [hb]; exact k.2⟩

theorem ORel.boxObj {b : Nat} {o : Obj} (h : ORel P G M w b o) (hd : o ≠ .dead) : BoxObj w b := by
  cases o with
  | dead => exact absurd rfl hd
  | laid k =>
    obtain ⟨arr, el, fz, h1, h2, _⟩ := h
    exact ⟨h2, _, h1, trivial⟩
  | cells ty cs =>
    obtain ⟨arr, el, fz, h1, h2, _⟩ := h
    exact ⟨h2, _, h1, trivial⟩
  | amap es =>
    obtain ⟨ents, clock, h1, _⟩ := h
    exact ⟨fun o => by simp [World.frozen?, h1], _, h1, trivial⟩
  | siter s pos =>
    obtain ⟨a, h1, _⟩ := h
    exact ⟨fun o => by simp [World.frozen?, h1], _, h1, trivial⟩
  | loop env ps as bd st pend =>
    obtain ⟨l, own, h1, _⟩ := h
    exact ⟨fun o => by simp [World.frozen?, h1], _, h1, trivial⟩

theorem MOk.alloc (k : MOk G M w) (o : Go.Obj) : MOk G M (w.alloc o) where
  pins := fun b i v hp => by
    have h1 := k.pins b i v hp
    have h2 : b < w.heap.size := World.block_lt_of_cell? w ⟨b, i, none⟩ h1
    rw [cell_of_heap (alloc_heap_old o h2)]; exact h1
  boxlt := fun n b hb => by simp; have := k.boxlt n b hb; omega
  boxinj := k.boxinj
  boxpin := k.boxpin
  boxobj := fun n b hb => (k.boxobj n b hb).keep (alloc_heap_old o (k.boxlt n b hb))
  slotlt := fun s r hr => by simp; have := k.slotlt s r hr; omega
  slotbox := k.slotbox
  slotinj := k.slotinj
  slotpin := k.slotpin
  sents := k.sents.step rfl (fun i a h => alloc_heap_old o (k.sents.lt h)) (fun _ _ h => .inl h) (fun s r h => .inl ⟨s, r, h, rfl⟩)

theorem Good.alloc (g : Good P G T M h w) (o : Go.Obj) : Good P G T M h (w.alloc o) where
  mok := g.mok.alloc o
  glob := g.glob
  gle := g.gle
  nbeq := g.nbeq
  nseq := g.nseq
  hok := g.hok
  fbox := g.fbox
  fslot := g.fslot
  boxes := fun n x ht hx => let ⟨b, hb, ho⟩ := g.boxes n x ht hx; ⟨b, hb, ho.keep (.refl M) (alloc_heap_old o (g.mok.boxlt n b hb))⟩
  slots := fun s x ht hx => (g.slots s x ht hx).keep (.refl M) rfl (fun r hr => alloc_heap_old o (g.mok.slotlt s r hr))

theorem Stp.alloc (W : Loc → Prop) (M : Mp) (w : World) (o : Go.Obj) : Stp W M w M (w.alloc o) :=
  ⟨.refl M, by simp, fun _ hb _ => alloc_heap_old o hb, fun _ _ h => .inl h, fun _ _ h => .inl h, fun _ _ _ h => .inl h, fun _ h => .inl h, Nat.le_refl _, Nat.le_refl _, fun _ _ h _ => h, ⟨rfl, rfl⟩⟩

/-! ### worlds with one heap -/

theorem Good.of_heap (g : Good P G T M h w) (e : w'.heap = w.heap) : Good P G T M h w' where
  mok := ⟨fun b i v hp => by rw [cell_of_heap (w := w) (w' := w') (by rw [e])]; exact g.mok.pins b i v hp, fun n b hb => by rw [e]; exact g.mok.boxlt n b hb, g.mok.boxinj, g.mok.boxpin,
    fun n b hb => (g.mok.boxobj n b hb).keep (by rw [e]), fun s r hr => by rw [e]; exact g.mok.slotlt s r hr, g.mok.slotbox, g.mok.slotinj, g.mok.slotpin,
    g.mok.sents.step rfl (fun _ _ _ => by rw [e]) (fun _ _ h => .inl h) (fun s r h => .inl ⟨s, r, h, rfl⟩)⟩
  glob := g.glob
  gle := g.gle
  nbeq := g.nbeq
  nseq := g.nseq
  hok := g.hok
  fbox := g.fbox
  fslot := g.fslot
  boxes := fun n x ht hx => let ⟨b, hb, ho⟩ := g.boxes n x ht hx; ⟨b, hb, ho.keep (.refl M) (by rw [e])⟩
  slots := fun s x ht hx => (g.slots s x ht hx).keep (.refl M) rfl (fun r hr => by rw [e])

theorem Stp.of_heap (W : Loc → Prop) (M : Mp) {w w' : World} (e : w'.heap = w.heap) (io : SameIO w w') : Stp W M w M w' :=
  ⟨.refl M, by rw [e]; exact Nat.le_refl _, fun _ _ _ => by rw [e], fun _ _ h => .inl h, fun _ _ h => .inl h, fun _ _ _ h => .inl h, fun _ h => .inl h, Nat.le_refl _, Nat.le_refl _, fun _ _ h _ => h, io⟩

/-! ### a new box -/

def Mp.addBox (M : Mp) (n b : Nat) : Mp := { M with nb := n + 1, box := fun k => if k = n then some b else M.box k }

theorem Mp.addBox_le {n b : Nat} (hn : M.box n = none) : M.Le (M.addBox n b) :=
  ⟨fun k c hk => by
    simp only [Mp.addBox]
    split
    · rename_i e; subst e; rw [hn] at hk; cases hk
    · exact hk, fun s => .refl _, fun _ _ _ h => h, rfl⟩

theorem Stp.addBox (W : Loc → Prop) {M : Mp} {w : World} {n : Nat} (hn : M.box n = none) (he : n = M.nb) (o : Go.Obj) : Stp W M w (M.addBox n w.heap.size) (w.alloc o) :=
  ⟨Mp.addBox_le hn, by simp, fun _ hb _ => alloc_heap_old o hb, fun k c hk => by
    simp only [Mp.addBox] at hk
    split at hk
    · rename_i e; simp only [Option.some.injEq] at hk; subst hk; exact .inr ⟨Nat.le_refl _, by omega⟩
    · exact .inl hk, fun _ _ h => .inl h, fun _ _ _ h => .inl h, fun _ h => .inl h, by simp only [Mp.addBox]; omega, Nat.le_refl _, fun _ _ h _ => h, ⟨rfl, rfl⟩⟩

theorem MOk.addBox (k : MOk G M w) {n : Nat} (o : Go.Obj) (hbo : BoxObj (w.alloc o) w.heap.size) : MOk G (M.addBox n w.heap.size) (w.alloc o) where
  pins := (k.alloc o).pins
  boxlt := fun m b hb => by
    simp only [Mp.addBox] at hb
    split at hb
    · simp only [Option.some.injEq] at hb; subst hb; simp
    · have := k.boxlt m b hb; simp; omega
  boxinj := fun m m' b hb hb' => by
    simp only [Mp.addBox] at hb hb'
    split at hb <;> split at hb'
    · omega
    · simp only [Option.some.injEq] at hb; subst hb; exact absurd (k.boxlt m' _ hb') (Nat.lt_irrefl _)
    · simp only [Option.some.injEq] at hb'; subst hb'; exact absurd (k.boxlt m _ hb) (Nat.lt_irrefl _)
    · exact k.boxinj m m' b hb hb'
  boxpin := fun m b i hG hb => by
    simp only [Mp.addBox] at hb ⊢
    split at hb
    · simp only [Option.some.injEq] at hb; subst hb
      cases hp : M.pin w.heap.size i with
      | none => rfl
      | some v => exact absurd (World.block_lt_of_cell? w ⟨w.heap.size, i, none⟩ (k.pins _ _ _ hp)) (Nat.lt_irrefl _)
    · exact k.boxpin m b i hG hb
  boxobj := fun m b hb => by
    simp only [Mp.addBox] at hb
    split at hb
    · simp only [Option.some.injEq] at hb; subst hb; exact hbo
    · exact (k.alloc o).boxobj m b hb
  slotlt := fun s r hr => by have := k.slotlt s r hr; simp; omega
  slotbox := fun s r m hr => by
    simp only [Mp.addBox]
    split
    · intro e
      simp only [Option.some.injEq] at e
      exact absurd (k.slotlt s r hr) (by omega)
    · exact k.slotbox s r m hr
  slotinj := k.slotinj
  slotpin := k.slotpin
  sents := k.sents.step rfl (fun i a h => alloc_heap_old o (k.sents.lt h)) (fun m b h => by
    simp only [Mp.addBox] at h
    split at h
    · simp only [Option.some.injEq] at h; exact .inr (by omega)
    · exact .inl h) (fun s r h => .inl ⟨s, r, h, rfl⟩)

theorem Good.addBox (g : Good P G T M h w) (obj : Go.Obj) (o : Obj)
    (ho : ORel P G (M.addBox h.nb w.heap.size) (w.alloc obj) w.heap.size o) (hd : o ≠ .dead) : Good P G T (M.addBox h.nb w.heap.size) (h.push o) (w.alloc obj) where
  mok := g.mok.addBox obj (ho.boxObj hd)
  glob := fun k hk => (Mp.addBox_le (g.fbox _ (Nat.le_refl _))).box _ _ (g.glob k hk)
  gle := by have := g.gle; simp [Heap.push]; omega
  nbeq := by simp [Mp.addBox, Heap.push]
  nseq := g.nseq
  hok := g.hok.push o
  fbox := fun n hn => by
    simp [Heap.push] at hn
    have : n ≠ h.nb := by omega
    simp only [Mp.addBox, this, if_false]
    exact g.fbox n (by omega)
  fslot := g.fslot
  boxes := fun n x ht hx => by
    by_cases e : n = h.nb
    · subst e
      rw [Heap.get_push_same] at hx
      cases hx
      exact ⟨w.heap.size, by simp [Mp.addBox], ho⟩
    · have hlt : n < h.nb := by have := Heap.get_lt hx; simp [Heap.push] at this; omega
      rw [Heap.get_push_old _ _ hlt] at hx
      obtain ⟨b, hb, hx⟩ := g.boxes n x ht hx
      exact ⟨b, by simp [Mp.addBox, e, hb], hx.keep (Mp.addBox_le (g.fbox _ (Nat.le_refl _))) (alloc_heap_old obj (g.mok.boxlt n b hb))⟩
  slots := fun s x ht hx => (g.slots s x ht hx).keep (Mp.addBox_le (g.fbox _ (Nat.le_refl _))) rfl (fun r hr => alloc_heap_old obj (g.mok.slotlt s r hr))

/-! ### a new row of cells that stays as it is -/

def Mp.addPins (M : Mp) (b : Nat) (arr : Nat → Option Value) : Mp := { M with pin := fun k o => if k = b then arr o else M.pin k o }

theorem Mp.addPins_le {b : Nat} {arr : Nat → Option Value} (hb : ∀ o, M.pin b o = none) : M.Le (M.addPins b arr) :=
  ⟨fun _ _ h => h, fun s => .refl _, fun k o v hk => by
    simp only [Mp.addPins]
    split
    · rename_i e; subst e; rw [hb] at hk; cases hk
    · exact hk, rfl⟩

theorem MOk.pin_new (k : MOk G M w) (o : Nat) : M.pin w.heap.size o = none := by
  cases hp : M.pin w.heap.size o with
  | none => rfl
  | some v => exact absurd (World.block_lt_of_cell? w ⟨w.heap.size, o, none⟩ (k.pins _ _ _ hp)) (Nat.lt_irrefl _)

theorem MOk.addPins (k : MOk G M w) (arr : Array Value) (el : TypeId) (fz : Nat × Nat) :
    MOk G (M.addPins w.heap.size fun o => arr[o]?) (w.alloc (.cells arr el fz)) where
  pins := fun b i v hp => by
    simp only [Mp.addPins] at hp
    split at hp
    · rename_i e; subst e
      simp only [World.cell?, alloc_heap_new]
      simpa using hp
    · exact (k.alloc _).pins b i v hp
  boxlt := (k.alloc _).boxlt
  boxinj := k.boxinj
  boxpin := fun n b i hG hb => by
    have : b ≠ w.heap.size := Nat.ne_of_lt (k.boxlt n b hb)
    simp only [Mp.addPins, this, if_false]
    exact k.boxpin n b i hG hb
  boxobj := (k.alloc _).boxobj
  slotlt := (k.alloc (.cells arr el fz)).slotlt
  slotbox := k.slotbox
  slotinj := k.slotinj
  slotpin := fun s r j hr h1 h2 => by
    have : r.b ≠ w.heap.size := Nat.ne_of_lt (k.slotlt s r hr)
    simp only [Mp.addPins, this, if_false]
    exact k.slotpin s r j hr h1 h2
  sents := (k.alloc (.cells arr el fz)).sents.step (w := w.alloc (.cells arr el fz)) rfl (fun _ _ _ => rfl) (fun _ _ h => .inl h) (fun s r h => .inl ⟨s, r, h, rfl⟩)

theorem Good.addPins (g : Good P G T M h w) (arr : Array Value) (el : TypeId) (fz : Nat × Nat) :
    Good P G T (M.addPins w.heap.size fun o => arr[o]?) h (w.alloc (.cells arr el fz)) where
  mok := g.mok.addPins arr el fz
  glob := g.glob
  gle := g.gle
  nbeq := g.nbeq
  nseq := g.nseq
  hok := g.hok
  fbox := g.fbox
  fslot := g.fslot
  boxes := fun n x ht hx => let ⟨b, hb, ho⟩ := g.boxes n x ht hx
    ⟨b, hb, ho.keep (Mp.addPins_le g.mok.pin_new) (alloc_heap_old _ (g.mok.boxlt n b hb))⟩
  slots := fun s x ht hx => (g.slots s x ht hx).keep (Mp.addPins_le g.mok.pin_new) rfl (fun r hr => alloc_heap_old _ (g.mok.slotlt s r hr))

theorem Stp.addPins (W : Loc → Prop) (k : MOk G M w) (arr : Array Value) (el : TypeId) (fz : Nat × Nat) :
    Stp W M w (M.addPins w.heap.size fun o => arr[o]?) (w.alloc (.cells arr el fz)) :=
  ⟨Mp.addPins_le k.pin_new, by simp, fun _ hb _ => alloc_heap_old _ hb, fun _ _ h => .inl h, fun _ _ h => .inl h, fun b _ _ h => by
    simp only [Mp.addPins] at h
    split at h
    · rename_i e; exact .inr (.inl (by omega))
    · exact .inl h, fun _ h => .inl h, Nat.le_refl _, Nat.le_refl _, fun _ _ h _ => h, ⟨rfl, rfl⟩⟩

/-! ### a box that is written -/

/-- memory after a write into one block -/
structure OneBlock (w w' : World) (b : Nat) : Prop where
  size : w'.heap.size = w.heap.size
  other : ∀ c, c ≠ b → w'.heap[c]? = w.heap[c]?
  io : SameIO w w'

theorem MOk.nopin (k : MOk G M w) {b : Nat} {x : Go.Obj} (hb : w.heap[b]? = some x) (hx : ∀ a e f, x ≠ .cells a e f) (i : Nat) : M.pin b i = none := by
  cases hp : M.pin b i with
  | none => rfl
  | some v =>
    have h1 := k.pins _ _ _ hp
    cases x <;> first | exact absurd rfl (hx _ _ _) | simp [World.cell?, hb] at h1

theorem Good.put (g : Good P G T M h w) {n b : Nat} {o0 : Obj} (hb : M.box n = some b) (hg : h.get n = some o0) (hp0 : ∀ i, M.pin b i = none) (k : OneBlock w w' b) (o : Obj)
    (ho : ORel P G M w' b o) (hd : o ≠ .dead) : Good P G T M (h.put n o) w' where
  mok := ⟨fun c i v hp => by
      have : c ≠ b := by rintro rfl; rw [hp0 i] at hp; cases hp
      rw [cell_of_heap (k.other c this)]; exact g.mok.pins c i v hp,
    fun m c hc => by rw [k.size]; exact g.mok.boxlt m c hc, g.mok.boxinj, g.mok.boxpin,
    fun m c hc => by
      by_cases e : c = b
      · subst e; exact ho.boxObj hd
      · exact (g.mok.boxobj m c hc).keep (k.other c e),
    fun s r hr => by rw [k.size]; exact g.mok.slotlt s r hr, g.mok.slotbox, g.mok.slotinj, g.mok.slotpin,
    g.mok.sents.step rfl (fun i a h => k.other a.block (by rintro e; exact g.mok.sents.box i a n h (by rw [hb, e]))) (fun _ _ h => .inl h) (fun s r h => .inl ⟨s, r, h, rfl⟩)⟩
  glob := g.glob
  gle := g.gle
  nbeq := g.nbeq
  nseq := g.nseq
  hok := g.hok.put n o
  fbox := g.fbox
  fslot := g.fslot
  boxes := fun m x ht hx => by
    by_cases e : m = n
    · subst e
      rw [Heap.get_put_same h o hg] at hx
      cases hx
      exact ⟨b, hb, ho⟩
    · rw [Heap.get_put_ne h o (Heap.get_lt hg) e] at hx
      obtain ⟨c, hc, hx⟩ := g.boxes m x ht hx
      have : c ≠ b := by rintro rfl; exact e (g.mok.boxinj m n c hc hb)
      exact ⟨c, hc, hx.keep (.refl M) (k.other c this)⟩
  slots := fun s x ht hx => (g.slots s x ht hx).keep (.refl M) rfl (fun r hr => k.other _ (by
    intro e; exact g.mok.slotbox s r n hr (e ▸ hb)))

theorem Stp.put {n b : Nat} (hW : W (.b n)) (hb : M.box n = some b) (k : OneBlock w w' b) : Stp W M w M w' :=
  ⟨.refl M, by rw [k.size]; exact Nat.le_refl _, fun c _ hc => k.other c (by rintro rfl; exact hc (.inl ⟨n, hW, hb⟩)), fun _ _ h => .inl h, fun _ _ h => .inl h, fun _ _ _ h => .inl h, fun _ h => .inl h, Nat.le_refl _, Nat.le_refl _, fun _ _ h _ => h, k.io⟩

theorem OneBlock.setCell (w : World) (b o : Nat) (v : Value) : OneBlock w (w.setCell ⟨b, o, none⟩ v) b :=
  ⟨by simp, fun c hc => by simp [World.setCell, Array.getElem?_modify, Ne.symm hc], ⟨rfl, rfl⟩⟩

theorem OneBlock.setObj (w : World) (b : Nat) (o : Go.Obj) : OneBlock w { w with heap := w.heap.setIfInBounds b o } b :=
  ⟨by simp, fun c hc => by simp [Ne.symm hc], ⟨rfl, rfl⟩⟩

theorem OneBlock.freeze (w : World) (b o n : Nat) : OneBlock w (w.freeze ⟨b, o, none⟩ n) b := by
  unfold World.freeze
  split
  · exact ⟨rfl, fun _ _ => rfl, ⟨rfl, rfl⟩⟩
  · exact ⟨by simp, fun c hc => by simp [Array.getElem?_modify, Ne.symm hc], ⟨rfl, rfl⟩⟩

theorem OneBlock.trans {w1 : World} {b : Nat} (k : OneBlock w w1 b) (k' : OneBlock w1 w' b) : OneBlock w w' b :=
  ⟨k'.size.trans k.size, fun c hc => (k'.other c hc).trans (k.other c hc), ⟨k'.io.1.trans k.io.1, k'.io.2.trans k.io.2⟩⟩

theorem OneBlock.refl (w : World) (b : Nat) : OneBlock w w b := ⟨rfl, fun _ _ => rfl, ⟨rfl, rfl⟩⟩
end
end Am
end
