/- A second evaluator of the abstract machine's code, in continuation-passing style: what is partial is a visible test. Nothing is claimed of a program here. -/
import Derived.Test.YtgklpnendmhbjaaGreatDoorA1
import Derived.IntWalk
import Derived.Test.YtgklpnendmhbjaaGreatDoorA6
set_option linter.unusedSimpArgs false
set_option linter.unusedVariables false
set_option linter.unusedSectionVars false
set_option linter.unnecessarySimpa false
section
namespace Am
open Go

abbrev KV (R : Type) := AV → Heap → Option R
abbrev KS (R : Type) := Ex → St → Option R
abbrev CallX (R : Type) := Tgt → List AV → Heap → KV R → Option R
abbrev TabX (R : Type) := Nat → Option (List AV → Heap → KV R → Option R)
/-- what is known of a function's blocks -/
abbrev LtX (R : Type) := Nat → Option (St → KS R → Option R)

/-- go on, if so -/
abbrev chk {R : Type} (b : Bool) (x : Option R) : Option R := cond b x none

/-! ### parts of values of which nothing is known -/

def AV.cellJ : AV → Nat → AV
  | .agg cs, j => cs.getD j .junk
  | v, _ => v

def AV.hasCells (sz : Nat) (x : AV) : Bool := match x.cells? with
  | some cs => cs.length == sz
  | none => false

def AV.cellsD (sz : Nat) (x : AV) : List AV := (List.range sz).map fun j => x.cellJ j

def isByteA (v : AV) : Bool := (unbyte v).isSome
def byteD (v : AV) : UInt8 := (unbyte v).getD 0

section
variable {R : Type}

def findKeyX (kk : Nat) (k : AV) : List (AV × AV) → (Option AV → Option R) → Option R
  | [], c => c none
  | (k', v) :: es, c => match eqK kk k k' with
    | some b => cond b (c (some v)) (findKeyX kk k es c)
    | none => none

def findSlotX (s : Nat) : List (Nat × SObj) → (SObj → List (Nat × SObj) → Option R) → Option R
  | [], _ => none
  | (n, o) :: l, c => cond (n == s) (chk (l.all fun p => p.1 != s) (c o l)) (findSlotX s l fun o' l' => c o' ((n, o) :: l'))

def appendX (G el sz bytes : Nat) (s : AV) (ys : List AV) (h : Heap) (k : KV R) : Option R :=
  let ys := stripL ys
  chk (headOk sz ys && nfL G 0 ys && ys.all AV.flatOk)
    (match s with
    | .slice xs p =>
      cond ys.isEmpty (k (.slice xs p) h)
        (chk (headOk sz xs) (chk (decide ((xs.length + ys.length) * bytes ≤ 140737488355328))
          (match p with
          | .full | .nil => k (.slice (xs ++ ys) (.tok h.ns)) (h.newSlot (.perm el))
          | .tok n => findSlotX n h.live fun o l => match o with
            | .perm el' => chk (el' == el) (k (.slice (xs ++ ys) (.tok h.ns)) ({ h.wrS n with live := l }.newSlot (.perm el)))
            | _ => none
          | .ro => none)))
    | .oslice n len => findSlotX n h.live fun o l => match o with
      | .arr sz' xs =>
        chk (sz' == sz && decide (len ≤ xs.length) && decide ((len + ys.length) * bytes ≤ 140737488355328))
          (k (.oslice h.ns (len + ys.length)) ({ h.wrS n with live := l }.newSlot (.arr sz (xs.take len ++ ys))))
      | _ => none
    | _ => none)

def binX (op : BinOp) (x y : AV) (k : AV → Option R) : Option R :=
  match op, x, y with
  | .shl, .int kk a, .int _ b => chk (decide (0 ≤ b)) (k (.int kk (kk.wrap (a * 2 ^ (min b.toNat kk.bits)))))
  | .shr, .int kk a, .int _ b => chk (decide (0 ≤ b)) (k (.int kk (a.fdiv (2 ^ (min b.toNat kk.bits)))))
  | .quo, .int kk a, .int kk' b => chk (decide (kk = kk')) (chk (!(b == 0)) (k (.int kk (kk.wrap (a.tdiv b)))))
  | .rem, .int kk a, .int kk' b => chk (decide (kk = kk')) (chk (!(b == 0)) (k (.int kk (a.tmod b))))
  | .add, .str a, .str b => chk (decide (((a.length + b.length : Nat) : Int) ≤ IntKind.i64.max)) (k (.str (a ++ b)))
  | op, x, y => match binA op x y with
    | some v => k v
    | none => none

def eqCellsX : List Nat → List AV → List AV → (Bool → Option R) → Option R
  | [], [], [], c => c true
  | k :: ks, x :: xs, y :: ys, c => match eqK k x y with
    | some b => eqCellsX ks xs ys fun r => c (b && r)
    | none => none
  | _, _, _, _ => none

def eqX (k : EK) (lit : Bool) (x y : AV) (c : Bool → Option R) : Option R :=
  match k with
  | .cells ks => match x, y with
    | .agg xs, .agg ys => eqCellsX ks xs ys c
    | _, _ => none
  | k => match eqA k lit x y with
    | some b => c b
    | none => none

/-- a bound of a slice expression -/
def numX : Option AV → (Option Int → Option R) → Option R
  | none, c => c none
  | some (.int _ n), c => chk (decide (0 ≤ n)) (c (some n))
  | some _, _ => none

def sliceX (len cap : Nat) (lo hi mx : Option AV) (c : Nat → Nat → Option Nat → Option R) : Option R :=
  numX lo fun l => numX hi fun h => numX mx fun m =>
    let l := (l.map Int.toNat).getD 0
    match h, m with
    | some h, some m => chk (decide (m.toNat ≤ cap)) (chk (decide (h.toNat ≤ m.toNat)) (chk (decide (l ≤ h.toNat)) (c l h.toNat (some m.toNat))))
    | some h, none => chk (decide (h.toNat ≤ cap)) (chk (decide (l ≤ h.toNat)) (c l h.toNat none))
    | none, none => chk (decide (l ≤ len)) (c l len none)
    | none, some _ => none

def opX (Q : AProg) (C : CallX R) (op : AOp) (e : Env) (h : Heap) (k : KV R) : Option R :=
  match op with
  | .pick c a b => match c.ev e with
    | .bool t => cond t (k (a.ev e) h) (k (b.ev e) h)
    | _ => none
  | .bin op x y => binX op (x.ev e) (y.ev e) fun v => k v h
  | .eq neg kk lit x y => eqX kk lit (x.ev e) (y.ev e) fun b => k (.bool (b != neg)) h
  | .conv .b2s x => match x.ev e with
    | .slice xs _ => chk (xs.all isByteA) (k (.str (xs.map byteD)) h)
    | _ => none
  | .slice true _ x lo hi none => match x.ev e with
    | .str s => sliceX s.length s.length (lo.map (·.ev e)) (hi.map (·.ev e)) none fun l h' _ => k (.str ((s.drop l).take (h' - l))) h
    | _ => none
  | .slice false sz x lo hi mx => match x.ev e with
    | .slice xs p => chk (headOk sz xs) (sliceX xs.length xs.length (lo.map (·.ev e)) (hi.map (·.ev e)) (mx.map (·.ev e)) fun l h' m =>
        let ys := (xs.drop l).take (h' - l)
        match m with
        | some m => cond (m == h') (k (.slice ys .full) h) (k (.slice ys .ro) h)
        | none =>
          match p with
          | .ro => k (.slice ys .ro) h
          | .full => cond (h' == xs.length) (k (.slice ys .full) h) (k (.slice ys .ro) h)
          | .nil => k (.slice ys .ro) h
          | .tok s => cond (h' == xs.length) (cond (l == 0) (k (.slice ys (.tok s)) h) (k (.slice ys .ro) h)) (k (.slice ys .ro) h))
    | .oslice s len => match lo, hi, mx with
      | none, some hi, none => match hi.ev e with
        | .int _ n => chk (decide (0 ≤ n)) (chk (decide (n ≤ len)) (k (.oslice s n.toNat) h))
        | _ => none
      | _, _, _ => none
    | _ => none
  | .iaddr none sz x i => match i.ev e with
    | .int _ i => match x.ev e with
      | .slice xs _ => chk (decide (0 ≤ i)) (chk (decide (i < xs.length)) (chk ((xs.getD i.toNat .junk).hasCells sz) (k (.eptr ((xs.getD i.toNat .junk).cellsD sz) 0) h)))
      | .oslice s len => chk (decide (0 ≤ i)) (chk (decide (i < len)) (match h.slot s with
        | some (.arr sz' xs) => chk (sz' == sz && decide (len ≤ xs.length)) (k (.optr s i.toNat 0) (h.rdS s))
        | _ => none))
      | _ => none
    | _ => none
  | .iaddr (some n) sz x i => match i.ev e with
    | .int _ i => match x.ev e with
      | .ptr b o => chk (decide (0 ≤ i)) (chk (decide (i < n)) (k (.ptr b (o + i.toNat * sz)) h))
      | _ => none
    | _ => none
  | .index none x i => match i.ev e with
    | .int _ i => match x.ev e with
      | .str s => chk (decide (0 ≤ i)) (chk (decide (i < s.length)) (k (byteA (s.getD i.toNat 0)) h))
      | _ => none
    | _ => none
  | .lookup kk z ok m kv => match m.ev e with
    | .map n => match h.get n with
      | some (.amap es) => findKeyX kk (kv.ev e) es fun r => match r with
        | some v => k (if ok then .tup [v, .bool true] else v) (h.rd n)
        | none => k (if ok then .tup [z, .bool false] else z) (h.rd n)
      | _ => none
    | _ => none
  | .insert kk m kv v => match m.ev e with
    | .map n => match h.get n with
      | some (.amap es) => findKeyX kk (kv.ev e) es fun r => match r with
        | none => k (.tup []) ((h.wr n).put n (.amap (es ++ [(kv.ev e, v.ev e)])))
        | some _ => none
      | _ => none
    | _ => none
  | .next x => match x.ev e with
    | .iter n => match h.get n with
      | some (.siter s pos) =>
        cond (decide (pos < s.length))
          (k (.tup [.bool true, .int .i64 pos, .int .i32 (decodeA (s.drop pos)).1]) ((h.wr n).put n (.siter s (pos + (decodeA (s.drop pos)).2))))
          (k (.tup [.bool false]) (h.rd n))
      | _ => none
    | _ => none
  | .store sz x v => match x.ev e, (v.ev e).cells? with
    | .ptr n off, some vs => match h.get n with
      | some (.cells ty cs) =>
        if vs.length = sz ∧ off + sz ≤ cs.length ∧ vs.all AV.scalar ∧ Q.G ≤ n then
          k (.tup []) ((h.wr n).put n (.cells ty (cs.take off ++ (vs ++ cs.drop (off + sz)))))
        else none
      | _ => none
    | _, _ => none
  | .call f ax => C (.fn f) (argsOf e ax) h k
  | .callV x ax => match x.ev e with
    | .func f cs => C (.fn f) (argsOf e ax ++ cs) h k
    | .yield l => C (.yield l) (argsOf e ax) h k
    | _ => none
  | .invoke tab x ax => match x.ev e with
    | .iface t v => match tab.lookup t with
      | some (f, m) => match recvA m v with
        | some r => C (.fn f) (r :: argsOf e ax) h k
        | none => none
      | none => none
    | _ => none
  | .append el sz bytes s x => match x.ev e with
    | .slice ys _ => appendX Q.G el sz bytes (s.ev e) ys h k
    | .str t => appendX Q.G el sz bytes (s.ev e) (t.map byteA) h k
    | _ => none
  | .min2 mx x y => match x.ev e, y.ev e with
    | .int kk a, .int _ b => k (.int kk (cond mx (max b a) (min a b))) h
    | _, _ => none
  | op => match opA Q (fun _ _ _ => none) op e h with
    | some (v, h') => k v h'
    | none => none

/-- one operation, unless its guard holds it back; a guard is known behind its test -/
def operX (Q : AProg) (C : CallX R) (rnd : Option Nat) (o : AOper) (s : St) (k : St → Option R) : Option R :=
  let go (s : St) : Option R := match o.op with
    | .defer x ax =>
      if rnd.isSome then none else
      match x.ev s.env with
      | .func f cs => if Q.isCode f then k { s with env := setDst s.env o.dst (.tup []), ds := .call f (argsOf s.env ax ++ cs) :: s.ds } else none
      | _ => none
    | op => opX Q C op s.env s.h fun v h => k { s with env := setDst s.env o.dst v, h := h }
  match o.guard with
  | none => go s
  | some (d, want) => match s.env.get d with
    | .bool b => cond b
        (if want then go { s with env := s.env.set d (.bool true) } else k { s with env := setDst (s.env.set d (.bool true)) o.dst (.tup []) })
        (if want then k { s with env := setDst (s.env.set d (.bool false)) o.dst (.tup []) } else go { s with env := s.env.set d (.bool false) })
    | .tup _ => k { s with env := setDst s.env o.dst (.tup []) }
    | _ => none

def opsX (Q : AProg) (C : CallX R) (rnd : Option Nat) : List AOper → St → (St → Option R) → Option R
  | [], s, k => k s
  | o :: os, s, k => operX Q C rnd o s fun s' => opsX Q C rnd os s' k

def drawX (Q : AProg) (C : CallX R) (rnd : Option Nat) : List AOper → List (List Loc × List Loc) → St → (St → Option R) → Option R
  | [], _, s, k => k s
  | o :: os, fs, s, k =>
    operX Q C rnd o { s with h := { s.h with base := s.h.nb, sbase := s.h.ns, t := [], w := [] } } fun s1 =>
      let f := (ownL s.h s1.h ++ s1.h.w ++ s1.h.t, ownL s.h s1.h ++ s1.h.w)
      chk (o.conf.all fun i => match fs[i]? with
          | some (t, w) => disj f.2 t && disj w f.1
          | none => false)
        (drawX Q C rnd os (fs ++ [f])
          { s1 with h := { s1.h with base := s.h.base, sbase := s.h.sbase, t := filt s.h.base s.h.sbase s1.h.t ++ s.h.t, w := filt s.h.base s.h.sbase s1.h.w ++ s.h.w } } k)

def loopX : Nat → (St → KS R → Option R) → St → KS R → Option R
  | 0, _, _, _ => none
  | n + 1, b, s, k => b s fun ex s' => match ex with
    | .norm => loopX n b (trimS s.h.nb s') k
    | ex => k ex (trimS s.h.nb s')

/-- a loop through the elements of a slice -/
structure RInf where
  id : Nat
  id2 : Nat
  tc : Nat
  ti : Nat
  tl : Nat
  ts : Nat
  ta : Nat
  tv : Nat
  tn : Nat
  sz : Nat
  ag : Bool
  sz2 : Nat
  more : List AOper
  body : Option ACode

def rangeOf : ACode → Option RInf
  | .loop (.seq (.region false [⟨some tc, .bin .lss (.t ti) (.t tl), none, []⟩]) (.seq (.cond (.t tc') .skip (.exit id)) (.seq (.block id2 b)
      (.region false [⟨some tn, .bin .add (.t ti') (.c (.int .i64 1)), none, []⟩, ⟨some ti'', .mv (.t tn'), none, []⟩])))) =>
    if tc' = tc ∧ ti' = ti ∧ ti'' = ti ∧ tn' = tn then
      match b with
      | .seq (.region false (⟨some ta, .iaddr none sz (.t ts) (.t ti3), none, []⟩ :: ⟨some tv, .load ag sz2 (.t ta'), none, []⟩ :: more)) c =>
        if ti3 = ti ∧ ta' = ta then some ⟨id, id2, tc, ti, tl, ts, ta, tv, tn, sz, ag, sz2, more, some c⟩ else none
      | .region false (⟨some ta, .iaddr none sz (.t ts) (.t ti3), none, []⟩ :: ⟨some tv, .load ag sz2 (.t ta'), none, []⟩ :: more) =>
        if ti3 = ti ∧ ta' = ta then some ⟨id, id2, tc, ti, tl, ts, ta, tv, tn, sz, ag, sz2, more, none⟩ else none
      | _ => none
    else none
  | _ => none

/-- is none of these places written? -/
def spares (ts : List Nat) : ACode → Bool
  | .region _ ops => ops.all fun o => match o.dst with | some d => !ts.contains d | none => true
  | .seq a b => spares ts a && spares ts b
  | .cond _ a b => spares ts a && spares ts b
  | .block _ c => spares ts c
  | .loop c => spares ts c
  | .scope c => spares ts c
  | .rfunc .. => true
  | _ => true

def rangeX (r : RInf) (body : St → KS R → Option R) : List AV → Int → St → KS R → Option R
  | [], _, s, k => k (.exit r.id) { s with env := s.env.set r.tc (.bool false) }
  | x :: xs, i, s, k =>
    chk (x.hasCells r.sz) (match cellAt r.ag r.sz2 (x.cellsD r.sz) 0 with
    | some v => body { s with env := ((s.env.set r.tc (.bool true)).set r.ta (.eptr (x.cellsD r.sz) 0)).set r.tv v } fun ex s' =>
        let next (s' : St) : Option R := rangeX r body xs (i + 1) (trimS s.h.nb { s' with env := (s'.env.set r.tn (.int .i64 (i + 1))).set r.ti (.int .i64 (i + 1)) }) k
        match ex with
        | .norm => next s'
        | .exit id' => if id' = r.id2 then next s' else k (.exit id') (trimS s.h.nb s')
        | .ret => k .ret (trimS s.h.nb s')
    | none => none)

def RInf.inner (r : RInf) : ACode :=
  let ops := ⟨some r.ta, .iaddr none r.sz (.t r.ts) (.t r.ti), none, []⟩ :: ⟨some r.tv, .load r.ag r.sz2 (.t r.ta), none, []⟩ :: r.more
  match r.body with
  | some c => .seq (.region false ops) c
  | none => .region false ops

def RInf.code (r : RInf) : ACode :=
  .seq (.region false [⟨some r.tc, .bin .lss (.t r.ti) (.t r.tl), none, []⟩]) (.seq (.cond (.t r.tc) .skip (.exit r.id)) (.seq (.block r.id2 r.inner)
    (.region false [⟨some r.tn, .bin .add (.t r.ti) (.c (.int .i64 1)), none, []⟩, ⟨some r.ti, .mv (.t r.tn), none, []⟩])))

def isRng (lt : LtX R) (c : ACode) (s : St) : Option (RInf × List AV) :=
  match rangeOf c with
  | some r => if (lt r.id2).isNone && spares [r.ti, r.tl, r.ts] (.seq (.region false r.more) (r.body.getD .skip)) && decide (r.ta ≠ r.ti ∧ r.ta ≠ r.tl ∧ r.ta ≠ r.ts ∧ r.tv ≠ r.ti ∧ r.tv ≠ r.tl ∧ r.tv ≠ r.ts ∧ r.tc ≠ r.ti ∧ r.tc ≠ r.tl ∧ r.tc ≠ r.ts ∧
        r.tn ≠ r.ti ∧ r.tn ≠ r.tl ∧ r.tn ≠ r.ts ∧ r.ti ≠ r.tl ∧ r.ti ≠ r.ts) then
      match s.env.get r.ts with
      | .slice _ (.tok _) => none
      | .slice xs _ => some (r, xs)
      | _ => none
    else none
  | none => none

/-- the depth d bounds how deep code stands in code; m bounds the rounds of loops -/
def evalX (Q : AProg) (C : CallX R) (lt : LtX R) (m : Nat) (rnd : Option Nat) : Nat → ACode → St → KS R → Option R
  | 0, _, _, _ => none
  | d + 1, c, s, k => match c with
    | .skip => k .norm s
    | .region false ops => opsX Q C rnd ops s fun s' => k .norm s'
    | .region true ops => drawX Q C rnd ops [] s fun s' => k .norm s'
    | .seq a b => evalX Q C lt m rnd d a s fun ex s' => match ex with
      | .norm => evalX Q C lt m rnd d b s' k
      | ex => k ex s'
    | .cond c a b => match c with
      | .t i => match s.env.get i with
        | .bool t => cond t (evalX Q C lt m rnd d a { s with env := s.env.set i (.bool true) } k) (evalX Q C lt m rnd d b { s with env := s.env.set i (.bool false) } k)
        | _ => none
      | .c v => match v with
        | .bool t => cond t (evalX Q C lt m rnd d a s k) (evalX Q C lt m rnd d b s k)
        | _ => none
    | .block id c => match lt id with
      | some F => F s k
      | none => evalX Q C lt m rnd d c s fun ex s' => match ex with
        | .exit id' => if id' = id then k .norm s' else k (.exit id') s'
        | ex => k ex s'
    | .loop c => match isRng lt (.loop c) s with
      | some (r, xs) => match s.env.get r.ti, s.env.get r.tl with
        | .int .i64 z, .int .i64 n => chk (z == 0) (chk (n == (xs.length : Int)) (chk (decide (xs.length < 4611686018427387904))
            (rangeX r (fun s k => opsX Q C rnd r.more s fun s' => match r.body with
              | none => k .norm s'
              | some b => evalX Q C lt m rnd d b s' k) xs 0 s k)))
        | _, _ => none
      | none => loopX m (evalX Q C lt m rnd d c) s k
    | .rfunc f ps a b =>
      let l := s.h.nb
      if rndOk rnd s.h then
        match f.ev s.env with
        | .func g cs => C (.fn g) (.yield l :: cs) (s.h.push (.loop s.env ps a b .ready none)) fun _ h' => match h'.get l with
          | some (.loop _ _ _ _ .busy _) => none
          | some (.loop e ps' a' b' _ p) =>
            let s' := { s with h := (h'.wr l).put l (.loop e ps' a' b' .done p), ds := if rnd.isSome then s.ds else .mark :: s.ds }
            match p with
            | none => k .norm s'
            | some ex => k ex s'
          | _ => none
        | _ => none
      else none
    | .exit id => k (.exit id) s
    | .scope c => evalX Q C lt m rnd d c s k
    | .ret => k .ret s
    | .bad => none

def runDefersX (C : CallX R) : List AD → Heap → (Heap → Option R) → Option R
  | [], h, k => k h
  | .mark :: ds, h, k => runDefersX C ds h k
  | .call f ax :: ds, h, k => C (.fn f) ax h fun _ h' => runDefersX C ds h' k

def bodyBX (Q : AProg) (C : CallX R) (lt : Nat → LtX R) (m D : Nat) : CallX R := fun tgt args h k =>
  match tgt with
  | .fn f => match Q.codes f with
    | some (.prim p) => match Q.prims p args h with
      | some (v, h') => k v h'
      | none => none
    | some (.code nt res body) =>
      if args.length ≤ nt then
        evalX Q C (lt f) m none D body ⟨args, [], enterH h⟩ fun ex s => match ex with
          | .exit _ => none
          | _ => runDefersX C s.ds s.h fun h1 => match readRes s.env h1 res with
            | some (vs, h2) => if Q.keep f then k (keepH h h2 (tupOf vs)).1 (keepH h h2 (tupOf vs)).2 else match popH h h2 (tupOf vs) with
              | some (v, h') => k v h'
              | none => none
            | none => none
      else none
    | none => none
  | .yield l => match h.get l with
    | some (.loop env ps a b .ready _) =>
      if args.length = ps.length then
        evalX Q C (fun _ => none) m (some l) D a ⟨setMany env ps args, [], enterH h⟩ fun ex1 s1 => match ex1, s1.h.get l with
          | .norm, some (.loop e1 ps1 a1 b1 .ready p1) =>
            evalX Q C (fun _ => none) m (some l) D b { s1 with h := (s1.h.wr l).put l (.loop e1 ps1 a1 b1 .busy p1) } fun ex s2 => match s2.h.get l with
              | some (.loop e2 ps2 a2 b2 _ _) =>
                match (match ex with
                  | .norm => popH h ((s2.h.wr l).put l (.loop e2 ps2 a2 b2 .ready none)) (.bool true)
                  | ex => popH h ((s2.h.wr l).put l (.loop e2 ps2 a2 b2 .done (some ex))) (.bool false)) with
                | some (v, h') => k v h'
                | none => none
              | _ => none
          | _, _ => none
      else none
    | _ => none

def bodyX (Q : AProg) (C : CallX R) (lt : Nat → LtX R) (m D : Nat) : CallX R := fun tgt args h k =>
  match tgt with
  | .fn f =>
    if Q.isCode f && !Q.keep f && nfL Q.G 0 args then
      if groundOk Q.G h then
        bodyBX Q C lt m D (.fn f) args (ground Q.G h) fun v h1 => match h1.w with
          | [] => if v.nf Q.G 0 then k v (logG Q.G h) else none
          | _ => none
      else none
    else bodyBX Q C lt m D (.fn f) args h k
  | .yield l => bodyBX Q C lt m D (.yield l) args h k

/-- calls: what the table knows, by the table; the rest by its code -/
def callX (Q : AProg) (tab : TabX R) (lt : Nat → LtX R) (m D : Nat) : Nat → CallX R
  | 0 => fun _ _ _ _ => none
  | n + 1 => fun tgt args h k => match tgt with
    | .fn f => match tab f with
      | some F => F args h k
      | none => bodyX Q (callX Q tab lt m D n) lt m D (.fn f) args h k
    | .yield l => bodyX Q (callX Q tab lt m D n) lt m D (.yield l) args h k
end
end Am
end
section
namespace Am
open Go

/-- with fuel enough the call returns so -/
def LimC (Q : AProg) (tgt : Tgt) (args : List AV) (h : Heap) (v : AV) (h' : Heap) : Prop := ∃ N, ∀ n, N ≤ n → callN Q n tgt args h = some (v, h')

section
variable {R : Type}

def CallOk (Q : AProg) (C : CallX R) : Prop := ∀ tgt args h k r, C tgt args h k = some r → ∃ v h', LimC Q tgt args h v h' ∧ k v h' = some r
def TabOk (Q : AProg) (tab : TabX R) : Prop := ∀ f F, tab f = some F → ∀ args h k r, F args h k = some r → ∃ v h', LimC Q (.fn f) args h v h' ∧ k v h' = some r

theorem chk_some {b : Bool} {x : Option R} {r : R} (h : chk b x = some r) : b = true ∧ x = some r := by
  cases b
  · cases h
  · exact ⟨rfl, h⟩

theorem cond_some {b : Bool} {x y : Option R} {r : R} (h : cond b x y = some r) : (b = true ∧ x = some r) ∨ (b = false ∧ y = some r) := by
  cases b
  · exact .inr ⟨rfl, h⟩
  · exact .inl ⟨rfl, h⟩

theorem findKeyX_ok {kk : Nat} {k : AV} : ∀ {es : List (AV × AV)} {c : Option AV → Option R} {r : R}, findKeyX kk k es c = some r → ∃ o, findKey kk k es = some o ∧ c o = some r
  | [], c, r, e => ⟨none, rfl, e⟩
  | (k', v) :: es, c, r, e => by
    simp only [findKeyX] at e
    simp only [findKey]
    split at e
    · rename_i b hb
      rw [hb]
      rcases cond_some e with ⟨rfl, e⟩ | ⟨rfl, e⟩
      · exact ⟨_, rfl, e⟩
      · exact findKeyX_ok e
    · cases e

theorem findSlotX_ok {s : Nat} : ∀ {l : List (Nat × SObj)} {c : SObj → List (Nat × SObj) → Option R} {r : R}, findSlotX s l c = some r →
    ∃ o, l.lookup s = some o ∧ c o (l.filter fun p => p.1 != s) = some r
  | [], c, r, e => by cases e
  | (n, o) :: l, c, r, e => by
    simp only [findSlotX] at e
    rcases cond_some e with ⟨h, e1⟩ | ⟨h, e1⟩
    · obtain ⟨h2, e2⟩ := chk_some e1
      have hn : n = s := by simpa using h
      subst hn
      refine ⟨o, by simp [List.lookup], ?_⟩
      have : ((n, o) :: l).filter (fun p => p.1 != n) = l := by
        simp only [List.filter_cons, bne_self_eq_false, Bool.false_eq_true, if_false]
        rw [List.filter_eq_self]
        intro p hp
        exact List.all_eq_true.1 h2 p hp
      rw [this]; exact e2
    · obtain ⟨o', h1, h2⟩ := findSlotX_ok e1
      have hn : ¬ n = s := by simpa using h
      refine ⟨o', ?_, ?_⟩
      · have : (s == n) = false := by simpa using fun e => hn e.symm
        simp only [List.lookup, this, h1]
      · have : (n != s) = true := by simpa using hn
        simp only [List.filter_cons, this, if_true]
        exact h2

theorem wrS_live (h : Heap) (n : Nat) : (h.wrS n).live = h.live := by unfold Heap.wrS; split <;> rfl

theorem appendX_ok {G el sz bytes : Nat} {s : AV} {ys : List AV} {h : Heap} {k : KV R} {r : R} (e : appendX G el sz bytes s ys h k = some r) :
    ∃ v h', appendA G el sz bytes s ys h = some (v, h') ∧ k v h' = some r := by
  unfold appendX at e
  obtain ⟨h1, e⟩ := chk_some e
  unfold appendA
  simp only [h1, if_true]
  split at e
  · rename_i xs p
    rcases cond_some e with ⟨h2, e⟩ | ⟨h2, e⟩
    · simp only [h2, if_true]; exact ⟨_, _, rfl, e⟩
    · obtain ⟨h3, e⟩ := chk_some e
      obtain ⟨h4, e⟩ := chk_some e
      simp only [h2, Bool.false_eq_true, if_false, h3, h4, Bool.and_self, if_true]
      split at e
      · exact ⟨_, _, rfl, e⟩
      · exact ⟨_, _, rfl, e⟩
      · rename_i n
        obtain ⟨o, h5, e⟩ := findSlotX_ok e
        simp only [Heap.slot, h5]
        split at e
        · rename_i el'
          obtain ⟨h6, e⟩ := chk_some e
          have h6 : el' = el := by simpa using h6
          simp only [h6, if_true]
          refine ⟨_, _, rfl, ?_⟩
          simpa only [Heap.unslot, wrS_live, Heap.ns_wrS] using e
        · cases e
      · cases e
  · rename_i n len
    obtain ⟨o, h5, e⟩ := findSlotX_ok e
    simp only [Heap.slot, h5]
    split at e
    · obtain ⟨h6, e⟩ := chk_some e
      simp only [h6, if_true]
      refine ⟨_, _, rfl, ?_⟩
      simpa only [Heap.unslot, wrS_live, Heap.ns_wrS] using e
    · cases e
  · cases e

theorem binX_ok {op : BinOp} {x y : AV} {k : AV → Option R} {r : R} (e : binX op x y k = some r) : ∃ v, binA op x y = some v ∧ k v = some r := by
  unfold binX at e
  split at e
  · obtain ⟨h1, e⟩ := chk_some e
    have h1 := of_decide_eq_true h1
    exact ⟨_, by simp only [binA, Int.not_lt.2 h1, if_false], e⟩
  · obtain ⟨h1, e⟩ := chk_some e
    have h1 := of_decide_eq_true h1
    exact ⟨_, by simp only [binA, Int.not_lt.2 h1, if_false], e⟩
  · replace ⟨h1, e⟩ := chk_some e
    replace ⟨h2, e⟩ := chk_some e
    replace h1 := of_decide_eq_true h1
    subst h1
    have h2 := by simpa using h2
    exact ⟨_, by simp only [binA, binInt, if_true, h2, if_false], e⟩
  · replace ⟨h1, e⟩ := chk_some e
    replace ⟨h2, e⟩ := chk_some e
    replace h1 := of_decide_eq_true h1
    subst h1
    have h2 := by simpa using h2
    exact ⟨_, by simp only [binA, binInt, if_true, h2, if_false], e⟩
  · obtain ⟨h1, e⟩ := chk_some e
    have h1 := of_decide_eq_true h1
    exact ⟨_, by simp only [binA, GT.gt, Int.not_lt.2 h1, if_false], e⟩
  · split at e
    · rename_i h1; exact ⟨_, h1, e⟩
    · cases e

theorem eqCellsX_ok : ∀ {ks : List Nat} {xs ys : List AV} {c : Bool → Option R} {r : R}, eqCellsX ks xs ys c = some r → ∃ b, eqCells ks xs ys = some b ∧ c b = some r
  | [], [], [], c, r, e => ⟨true, rfl, e⟩
  | k :: ks, x :: xs, y :: ys, c, r, e => by
    simp only [eqCellsX] at e
    simp only [eqCells]
    split at e
    · rename_i b hb
      obtain ⟨b', h1, h2⟩ := eqCellsX_ok e
      rw [hb]
      cases b
      · exact ⟨false, by simp [h1], by simpa using h2⟩
      · exact ⟨b', h1, by simpa using h2⟩
    · cases e
  | [], _ :: _, _, c, r, e => by cases e
  | [], [], _ :: _, c, r, e => by cases e
  | _ :: _, [], _, c, r, e => by cases e
  | _ :: _, _ :: _, [], c, r, e => by cases e

theorem eqX_ok {k : EK} {lit : Bool} {x y : AV} {c : Bool → Option R} {r : R} (e : eqX k lit x y c = some r) : ∃ b, eqA k lit x y = some b ∧ c b = some r := by
  unfold eqX at e
  split at e
  · split at e
    · exact eqCellsX_ok e
    · cases e
  · split at e
    · rename_i h1; exact ⟨_, h1, e⟩
    · cases e

theorem sliceX_ok {len cap : Nat} {lo hi mx : Option AV} {c : Nat → Nat → Option Nat → Option R} {r : R} (e : sliceX len cap lo hi mx c = some r) :
    ∃ l h m, sliceB len cap lo hi mx = some (l, h, m) ∧ c l h m = some r := by
  have num : ∀ {x : Option AV} {c : Option Int → Option R}, numX x c = some r → (x = none ∧ c none = some r) ∨ ∃ kk n, x = some (.int kk n) ∧ 0 ≤ n ∧ c (some n) = some r := by
    intro x c e
    unfold numX at e
    split at e
    · exact .inl ⟨rfl, e⟩
    · obtain ⟨h1, e⟩ := chk_some e
      exact .inr ⟨_, _, rfl, of_decide_eq_true h1, e⟩
    · cases e
  unfold sliceX at e
  rcases num e with ⟨rfl, e1⟩ | ⟨k1, l, rfl, hl, e1⟩
  all_goals rcases num e1 with ⟨rfl, e2⟩ | ⟨k2, h, rfl, hh, e2⟩
  all_goals rcases num e2 with ⟨rfl, e3⟩ | ⟨k3, m, rfl, hm, e3⟩
  all_goals clear e e1 e2
  all_goals simp only [Option.map_some, Option.map_none, Option.getD_some, Option.getD_none] at e3
  · obtain ⟨h1, e3⟩ := chk_some e3
    have h1 := of_decide_eq_true h1
    exact ⟨_, _, _, by simp [sliceB], e3⟩
  · cases e3
  · obtain ⟨h1, e3⟩ := chk_some e3
    obtain ⟨h2, e3⟩ := chk_some e3
    have h1 := of_decide_eq_true h1
    exact ⟨_, _, _, by simp [sliceB, hh, h1], e3⟩
  · obtain ⟨h1, e3⟩ := chk_some e3
    obtain ⟨h2, e3⟩ := chk_some e3
    obtain ⟨h3, e3⟩ := chk_some e3
    have h1 := of_decide_eq_true h1
    have h2 := of_decide_eq_true h2
    exact ⟨_, _, _, by simp [sliceB, hh, hm, h1, h2], e3⟩
  · obtain ⟨h1, e3⟩ := chk_some e3
    have h1 := of_decide_eq_true h1
    exact ⟨_, _, _, by simp [sliceB, hl, h1], e3⟩
  · cases e3
  · obtain ⟨h1, e3⟩ := chk_some e3
    obtain ⟨h2, e3⟩ := chk_some e3
    have h1 := of_decide_eq_true h1
    have h2 := of_decide_eq_true h2
    exact ⟨_, _, _, by simp [sliceB, hl, hh, h1, h2], e3⟩
  · obtain ⟨h1, e3⟩ := chk_some e3
    obtain ⟨h2, e3⟩ := chk_some e3
    obtain ⟨h3, e3⟩ := chk_some e3
    have h1 := of_decide_eq_true h1
    have h2 := of_decide_eq_true h2
    have h3 := of_decide_eq_true h3
    exact ⟨_, _, _, by simp [sliceB, hl, hh, hm, h1, h2, h3], e3⟩

theorem unbytes_all : ∀ {xs : List AV}, xs.all isByteA = true → unbytes xs = some (xs.map byteD)
  | [], _ => rfl
  | x :: xs, h => by
    simp only [List.all_cons, Bool.and_eq_true] at h
    obtain ⟨b, hb⟩ := Option.isSome_iff_exists.1 h.1
    simp [unbytes, hb, unbytes_all h.2, byteD]

theorem cellsD_of {sz : Nat} {x : AV} (h : x.hasCells sz = true) : x.cells? = some (x.cellsD sz) ∧ (x.cellsD sz).length = sz := by
  unfold AV.hasCells at h
  split at h
  · rename_i cs hc
    have hl : cs.length = sz := by simpa using h
    have : x.cellsD sz = cs := by
      apply List.ext_getElem
      · simp [AV.cellsD, hl]
      · intro i h1 h2
        simp only [AV.cellsD, List.getElem_map, List.getElem_range]
        cases x with
        | agg ds => simp only [AV.cells?] at hc; cases hc; simp [AV.cellJ, h2]
        | junk => cases hc
        | tup _ => cases hc
        | _ =>
          simp only [AV.cells?] at hc; cases hc
          have : i = 0 := by simp at h2; omega
          subst this; rfl
    rw [this]; exact ⟨hc, hl⟩
  · cases h

theorem opA_noK {Q : AProg} {K K' : CallF} {op : AOp} {e : Env} {h : Heap} (hn : match op with | .call .. | .callV .. | .invoke .. => False | _ => True) : opA Q K op e h = opA Q K' op e h := by
  cases op
  case slice str _ _ _ _ _ => cases str <;> simp only [opA]
  all_goals first | exact hn.elim | simp only [opA]

/-- eventually -/
def Ev (p : Nat → Prop) : Prop := ∃ N, ∀ n, N ≤ n → p n
theorem Ev.and {p q : Nat → Prop} (h : Ev p) (h' : Ev q) : Ev fun n => p n ∧ q n := by
  obtain ⟨N, h⟩ := h
  obtain ⟨N', h'⟩ := h'
  exact ⟨N + N', fun n hn => ⟨h n (by omega), h' n (by omega)⟩⟩
theorem Ev.mono {p q : Nat → Prop} (h : Ev p) (hpq : ∀ n, p n → q n) : Ev q := by
  obtain ⟨N, h⟩ := h
  exact ⟨N, fun n hn => hpq n (h n hn)⟩
theorem Ev.all {p : Nat → Prop} (h : ∀ n, p n) : Ev p := ⟨0, fun n _ => h n⟩

theorem putCells_eq : ∀ (vs cs : List AV) (off : Nat), off + vs.length ≤ cs.length → putCells cs off vs = cs.take off ++ (vs ++ cs.drop (off + vs.length))
  | [], cs, off, _ => by simp [putCells]
  | v :: vs, cs, off, h => by
    simp only [List.length_cons] at h
    rw [putCells, putCells_eq vs _ _ (by simp only [List.length_set]; omega)]
    have h1 : (cs.set off v).take (off + 1) = cs.take off ++ [v] := by
      rw [List.take_add_one, List.take_set_of_le (by omega)]
      simp [List.getElem?_set, show off < cs.length by omega]
    have h2 : (cs.set off v).drop (off + 1 + vs.length) = cs.drop (off + (v :: vs).length) := by
      rw [List.drop_set_of_lt (by omega)]
      congr 1
      simp only [List.length_cons]; omega
    rw [h1, h2]
    simp

theorem opX_ok {Q : AProg} {C : CallX R} (hC : CallOk Q C) {op : AOp} {e : Env} {h : Heap} {k : KV R} {r : R} (E : opX Q C op e h k = some r) :
    ∃ v h', (Ev fun n => opA Q (callN Q n) op e h = some (v, h')) ∧ k v h' = some r := by
  unfold opX at E
  split at E
  · rename_i c a b
    split at E
    · rename_i t ht
      rcases cond_some E with ⟨rfl, E1⟩ | ⟨rfl, E1⟩
      · exact ⟨_, _, .all fun n => by simp only [opA, ht, if_true], E1⟩
      · exact ⟨_, _, .all fun n => by simp only [opA, ht, Bool.false_eq_true, if_false], E1⟩
    · cases E
  · obtain ⟨v, h1, h2⟩ := binX_ok E
    exact ⟨_, _, .all fun n => by simp only [opA, h1], h2⟩
  · obtain ⟨v, h1, h2⟩ := eqX_ok E
    exact ⟨_, _, .all fun n => by simp only [opA, h1], h2⟩
  · split at E
    · rename_i xs p hx
      obtain ⟨h1, h2⟩ := chk_some E
      exact ⟨_, _, .all fun n => by simp only [opA, hx, unbytes_all h1], h2⟩
    · cases E
  · split at E
    · rename_i s hx
      obtain ⟨l, h', m, h1, h2⟩ := sliceX_ok E
      exact ⟨_, _, .all fun n => by simp only [opA, hx, h1], h2⟩
    · cases E
  · rename_i sz x lo hi mx
    split at E
    · rename_i xs p hx
      obtain ⟨h0, E⟩ := chk_some E
      obtain ⟨l, h', m, h1, h2⟩ := sliceX_ok E
      cases m with
      | some m =>
        simp only at h2
        rcases cond_some h2 with ⟨q, h3⟩ | ⟨q, h3⟩
        · have q : m = h' := by simpa using q
          exact ⟨_, _, .all fun n => by simp only [opA, hx, h0, h1, q, Bool.not_true, Bool.false_eq_true, if_false, if_true], h3⟩
        · have q : ¬ m = h' := by simpa using q
          exact ⟨_, _, .all fun n => by simp only [opA, hx, h0, h1, q, Bool.not_true, Bool.false_eq_true, if_false], h3⟩
      | none =>
        simp only at h2
        cases p with
        | ro => exact ⟨_, _, .all fun n => by simp only [opA, hx, h0, h1, Bool.not_true, Bool.false_eq_true, if_false, ite_self], h2⟩
        | nil => exact ⟨_, _, .all fun n => by simp only [opA, hx, h0, h1, Bool.not_true, Bool.false_eq_true, if_false, ite_self], h2⟩
        | full =>
          simp only at h2
          rcases cond_some h2 with ⟨q, h3⟩ | ⟨q, h3⟩
          · have q : h' = xs.length := by simpa using q
            subst q
            exact ⟨_, _, .all fun n => by simp only [opA, hx, h0, h1, Bool.not_true, Bool.false_eq_true, if_false, if_true], h3⟩
          · have q : ¬ h' = xs.length := by simpa using q
            exact ⟨_, _, .all fun n => by simp only [opA, hx, h0, h1, q, Bool.not_true, Bool.false_eq_true, if_false], h3⟩
        | tok s =>
          simp only at h2
          rcases cond_some h2 with ⟨q, h3⟩ | ⟨q, h3⟩
          · have q : h' = xs.length := by simpa using q
            subst q
            rcases cond_some h3 with ⟨q2, h4⟩ | ⟨q2, h4⟩
            · have q2 : l = 0 := by simpa using q2
              subst q2
              exact ⟨_, _, .all fun n => by simp only [opA, hx, h0, h1, Bool.not_true, Bool.false_eq_true, if_false, if_true], h4⟩
            · have q2 : ¬ l = 0 := by simpa using q2
              exact ⟨_, _, .all fun n => by simp only [opA, hx, h0, h1, q2, Bool.not_true, Bool.false_eq_true, if_false, if_true], h4⟩
          · have q : ¬ h' = xs.length := by simpa using q
            exact ⟨_, _, .all fun n => by simp only [opA, hx, h0, h1, q, Bool.not_true, Bool.false_eq_true, if_false], h3⟩
    · rename_i s len hx
      split at E
      · rename_i hi
        split at E
        · rename_i n hn
          obtain ⟨h0, E⟩ := chk_some E
          obtain ⟨h1, E⟩ := chk_some E
          have h0 := of_decide_eq_true h0
          have h1 := of_decide_eq_true h1
          exact ⟨_, _, .all fun _ => by simp only [opA, hx, hn, h0, h1, and_self, if_true], E⟩
        · cases E
      · cases E
    · cases E
  · split at E
    · rename_i i hi
      split at E
      · rename_i xs p hx
        obtain ⟨h0, E⟩ := chk_some E
        obtain ⟨h1, E⟩ := chk_some E
        obtain ⟨h2, E⟩ := chk_some E
        have h0 := of_decide_eq_true h0
        have h1 := of_decide_eq_true h1
        obtain ⟨h3, h4⟩ := cellsD_of h2
        exact ⟨_, _, .all fun _ => by simp only [opA, hi, hx, h0, h1, and_self, if_true, h3, h4], E⟩
      · rename_i s len hx
        obtain ⟨h0, E⟩ := chk_some E
        obtain ⟨h1, E⟩ := chk_some E
        have h0 := of_decide_eq_true h0
        have h1 := of_decide_eq_true h1
        split at E
        · rename_i hs
          obtain ⟨h2, E⟩ := chk_some E
          exact ⟨_, _, .all fun _ => by simp only [opA, hi, hx, h0, h1, and_self, if_true, hs, h2], E⟩
        · cases E
      · cases E
    · cases E
  · split at E
    · rename_i i hi
      split at E
      · rename_i b o hx
        obtain ⟨h0, E⟩ := chk_some E
        obtain ⟨h1, E⟩ := chk_some E
        have h0 := of_decide_eq_true h0
        have h1 := of_decide_eq_true h1
        exact ⟨_, _, .all fun _ => by simp only [opA, hi, hx, h0, h1, and_self, if_true], E⟩
      · cases E
    · cases E
  · split at E
    · rename_i i hi
      split at E
      · rename_i s hx
        obtain ⟨h0, E⟩ := chk_some E
        obtain ⟨h1, E⟩ := chk_some E
        have h0 := of_decide_eq_true h0
        have h1 := of_decide_eq_true h1
        have h2 : i.toNat < s.length := by omega
        refine ⟨_, _, .all fun _ => ?_, E⟩
        simp only [opA, hi, hx, h0, if_true, List.getElem?_eq_getElem h2, List.getD_eq_getElem?_getD, Option.getD_some]
      · cases E
    · cases E
  · split at E
    · rename_i n hm
      split at E
      · rename_i es hg
        obtain ⟨o, h1, h2⟩ := findKeyX_ok E
        cases o with
        | some v => exact ⟨_, _, .all fun _ => by simp only [opA, hm, hg, h1], h2⟩
        | none => exact ⟨_, _, .all fun _ => by simp only [opA, hm, hg, h1], h2⟩
      · cases E
    · cases E
  · split at E
    · rename_i n hm
      split at E
      · rename_i es hg
        obtain ⟨o, h1, h2⟩ := findKeyX_ok E
        cases o with
        | some v => cases h2
        | none => exact ⟨_, _, .all fun _ => by simp only [opA, hm, hg, h1], h2⟩
      · cases E
    · cases E
  · split at E
    · rename_i n hm
      split at E
      · rename_i s pos hg
        rcases cond_some E with ⟨q, E1⟩ | ⟨q, E1⟩
        · have q := of_decide_eq_true q
          exact ⟨_, _, .all fun _ => by simp only [opA, hm, hg, q, if_true], E1⟩
        · have q := of_decide_eq_false q
          exact ⟨_, _, .all fun _ => by simp only [opA, hm, hg, q, if_false], E1⟩
      · cases E
    · cases E
  · split at E
    · rename_i n off vs hx hv
      split at E
      · rename_i ty cs hg
        split at E
        · rename_i hc
          refine ⟨_, _, .all fun _ => ?_, E⟩
          simp only [opA, hx, hv, hg, hc, and_self, if_true]
          rw [putCells_eq _ _ _ (by rw [hc.1]; exact hc.2.1), hc.1]
        · cases E
      · cases E
    · cases E
  · obtain ⟨v, h', h1, h2⟩ := hC _ _ _ _ _ E
    exact ⟨v, h', h1, h2⟩
  · split at E
    · rename_i hx
      obtain ⟨v, h', ⟨N, h1⟩, h2⟩ := hC _ _ _ _ _ E
      exact ⟨v, h', ⟨N, fun n hn => by simp only [opA, hx]; exact h1 n hn⟩, h2⟩
    · rename_i hx
      obtain ⟨v, h', ⟨N, h1⟩, h2⟩ := hC _ _ _ _ _ E
      exact ⟨v, h', ⟨N, fun n hn => by simp only [opA, hx]; exact h1 n hn⟩, h2⟩
    · cases E
  · split at E
    · rename_i t v hx
      split at E
      · rename_i f m ht
        split at E
        · rename_i q hq
          obtain ⟨v', h', ⟨N, h1⟩, h2⟩ := hC _ _ _ _ _ E
          exact ⟨v', h', ⟨N, fun n hn => by simp only [opA, hx, ht, hq]; exact h1 n hn⟩, h2⟩
        · cases E
      · cases E
    · cases E
  · split at E
    · rename_i ys p hx
      obtain ⟨v, h', h1, h2⟩ := appendX_ok E
      exact ⟨v, h', .all fun _ => by simp only [opA, hx, h1], h2⟩
    · rename_i t hx
      obtain ⟨v, h', h1, h2⟩ := appendX_ok E
      exact ⟨v, h', .all fun _ => by simp only [opA, hx, h1], h2⟩
    · cases E
  · rename_i mx x y
    split at E
    · rename_i kk a k2 b hx hy
      refine ⟨_, _, .all fun _ => ?_, E⟩
      simp only [opA, hx, hy]
      cases mx
      · simp only [Bool.false_eq_true, if_false, cond_false, Int.min_def]
        congr 2; split <;> split <;> first | rfl | omega
      · simp only [if_true, cond_true, Int.max_def]
        congr 2; split <;> split <;> first | rfl | omega
    · cases E
  · split at E
    · rename_i v h' h1
      refine ⟨v, h', .all fun n => ?_, E⟩
      rw [← h1]
      apply opA_noK
      split <;> simp_all
    · cases E
end
end Am
end
section
namespace Am
open Go

section
variable {R : Type} {Q : AProg} {C : CallX R}

theorem Env.set_self : ∀ (e : Env) (d : Nat) (v : AV), e.get d = v → v ≠ .junk → e.set d v = e
  | [], d, v, h, hv => by
    simp [Env.get] at h
    exact absurd h.symm hv
  | x :: e, 0, v, h, _ => by
    simp [Env.get] at h
    simp [Env.set, h]
  | x :: e, d + 1, v, h, hv => by
    have := Env.set_self e d v (by simpa [Env.get] using h) hv
    simp only [Env.set, this]

theorem operX_ok (hC : CallOk Q C) {rnd : Option Nat} {o : AOper} {s : St} {k : St → Option R} {r : R} (E : operX Q C rnd o s k = some r) :
    ∃ s', (Ev fun n => evalOper Q (callN Q n) rnd o s = some s') ∧ k s' = some r := by
  have hgo : (match o.op with
    | .defer x ax =>
      if rnd.isSome then none else
      match x.ev s.env with
      | .func f cs => if Q.isCode f then k { s with env := setDst s.env o.dst (.tup []), ds := .call f (argsOf s.env ax ++ cs) :: s.ds } else none
      | _ => none
    | op => opX Q C op s.env s.h fun v h => k { s with env := setDst s.env o.dst v, h := h }) = some r → wantedA s.env o.guard = some true →
      ∃ s', (Ev fun n => evalOper Q (callN Q n) rnd o s = some s') ∧ k s' = some r := by
    intro E hw
    split at E
    · rename_i x ax hop
      split at E
      · cases E
      · rename_i hr
        split at E
        · rename_i f cs hx
          split at E
          · rename_i hc
            exact ⟨_, .all fun n => by simp only [evalOper, hw, hop, hr, hx, hc, if_true, Bool.false_eq_true, if_false], E⟩
          · cases E
        · cases E
    · rename_i hop
      obtain ⟨v, h', h1, h2⟩ := opX_ok hC E
      refine ⟨_, h1.mono fun n hn => ?_, h2⟩
      obtain ⟨dst, op, guard, conf⟩ := o
      simp only at hn hop hw ⊢
      cases op
      case defer => exact absurd rfl (hop _ _)
      all_goals simp only [evalOper, hw, hn]
  unfold operX at E
  cases hg : o.guard with
  | none =>
    simp only [hg] at E
    exact hgo E (by rw [hg]; rfl)
  | some g =>
    obtain ⟨d, want⟩ := g
    simp only [hg] at E
    split at E
    · rename_i b hb
      have hset : s.env.set d (.bool b) = s.env := Env.set_self _ _ _ hb (by simp)
      rcases cond_some E with ⟨rfl, E1⟩ | ⟨rfl, E1⟩
      · cases want
        · simp only [Bool.false_eq_true, if_false, hset] at E1
          exact ⟨_, .all fun n => by simp only [evalOper, hg, wantedA, hb]; rfl, E1⟩
        · simp only [if_true, hset] at E1
          exact hgo E1 (by rw [hg]; simp [wantedA, hb])
      · cases want
        · simp only [Bool.false_eq_true, if_false, hset] at E1
          exact hgo E1 (by rw [hg]; simp [wantedA, hb])
        · simp only [if_true, hset] at E1
          exact ⟨_, .all fun n => by simp only [evalOper, hg, wantedA, hb]; rfl, E1⟩
    · rename_i vs hb
      exact ⟨_, .all fun n => by simp only [evalOper, hg, wantedA, hb], E⟩
    · cases E

theorem opsX_ok (hC : CallOk Q C) {rnd : Option Nat} : ∀ {os : List AOper} {s : St} {k : St → Option R} {r : R}, opsX Q C rnd os s k = some r →
    ∃ s', (Ev fun n => evalOps Q (callN Q n) rnd os s = some s') ∧ k s' = some r
  | [], s, k, r, E => ⟨s, .all fun _ => rfl, E⟩
  | o :: os, s, k, r, E => by
    simp only [opsX] at E
    obtain ⟨s1, h1, h2⟩ := operX_ok hC E
    obtain ⟨s2, h3, h4⟩ := opsX_ok hC h2
    exact ⟨s2, (h1.and h3).mono fun n ⟨a, b⟩ => by simp only [evalOps, a, b], h4⟩

theorem drawX_ok (hC : CallOk Q C) {rnd : Option Nat} : ∀ {os : List AOper} {fs : List (List Loc × List Loc)} {s : St} {k : St → Option R} {r : R}, drawX Q C rnd os fs s k = some r →
    ∃ s', (Ev fun n => evalDraw Q (callN Q n) rnd os fs s = some s') ∧ k s' = some r
  | [], fs, s, k, r, E => ⟨s, .all fun _ => rfl, E⟩
  | o :: os, fs, s, k, r, E => by
    simp only [drawX] at E
    obtain ⟨s1, h1, h2⟩ := operX_ok hC E
    obtain ⟨h3, h4⟩ := chk_some h2
    obtain ⟨s2, h5, h6⟩ := drawX_ok hC h4
    refine ⟨s2, (h1.and h5).mono fun n ⟨a, b⟩ => ?_, h6⟩
    simp only [evalDraw, a]
    exact (if_pos h3).trans b

/-- code, run with fuel enough -/
def EvC (Q : AProg) (rnd : Option Nat) (c : ACode) (s : St) (ex : Ex) (s' : St) : Prop := Ev fun n => evalC Q (callN Q n) (iterN n) rnd c s = some (ex, s')

def CodeOk (Q : AProg) (rnd : Option Nat) (c : ACode) (b : St → KS R → Option R) : Prop := ∀ s k r, b s k = some r → ∃ ex s', EvC Q rnd c s ex s' ∧ k ex s' = some r

/-- rounds, run with fuel enough -/
def EvL (Q : AProg) (rnd : Option Nat) (c : ACode) (s : St) (ex : Ex) (s' : St) : Prop :=
  ∃ N, ∀ n, N ≤ n → ∀ j, N ≤ j → iterN j (fun s => trimR s.h.nb (evalC Q (callN Q n) (iterN n) rnd c s)) s = some (ex, s')

theorem EvL.of_step {rnd : Option Nat} {c : ACode} {s s1 s' : St} {ex : Ex} (h : EvC Q rnd c s .norm s1) (h' : EvL Q rnd c (trimS s.h.nb s1) ex s') : EvL Q rnd c s ex s' := by
  obtain ⟨N, h⟩ := h
  obtain ⟨N', h'⟩ := h'
  refine ⟨N + N' + 1, fun n hn j hj => ?_⟩
  obtain ⟨i, rfl⟩ : ∃ i, j = i + 1 := ⟨j - 1, by omega⟩
  simp only [iterN, h n (by omega), trimR]
  exact h' n (by omega) i (by omega)

theorem EvL.of_end {rnd : Option Nat} {c : ACode} {s s1 : St} {ex : Ex} (h : EvC Q rnd c s ex s1) (hx : ex ≠ .norm) : EvL Q rnd c s ex (trimS s.h.nb s1) := by
  obtain ⟨N, h⟩ := h
  refine ⟨N + 1, fun n hn j hj => ?_⟩
  obtain ⟨i, rfl⟩ : ∃ i, j = i + 1 := ⟨j - 1, by omega⟩
  simp only [iterN, h n (by omega), trimR]
  split
  · rename_i e; cases e; exact absurd rfl hx
  · rfl

theorem loopX_ok {rnd : Option Nat} {c : ACode} {b : St → KS R → Option R} (hb : CodeOk Q rnd c b) : ∀ (m : Nat) (s : St) (k : KS R) (r : R), loopX m b s k = some r →
    ∃ ex s', EvL Q rnd c s ex s' ∧ k ex s' = some r
  | 0, s, k, r, E => by cases E
  | m + 1, s, k, r, E => by
    simp only [loopX] at E
    obtain ⟨ex, s1, h1, h2⟩ := hb _ _ _ E
    cases ex with
    | norm =>
      obtain ⟨ex, s2, h3, h4⟩ := loopX_ok hb m _ _ _ h2
      exact ⟨ex, s2, .of_step h1 h3, h4⟩
    | exit id => exact ⟨_, _, .of_end h1 (by simp), h2⟩
    | ret => exact ⟨_, _, .of_end h1 (by simp), h2⟩

theorem EvL.code {rnd : Option Nat} {c : ACode} {s s' : St} {ex : Ex} (h : EvL Q rnd c s ex s') : EvC Q rnd (.loop c) s ex s' := by
  obtain ⟨N, h⟩ := h
  exact ⟨N, fun n hn => by simp only [evalC]; exact h n hn n hn⟩
end
end Am
end
section
namespace Am
open Go

section
variable {R : Type} {Q : AProg} {C : CallX R}

theorem rangeOf_code {c : ACode} {r : RInf} (h : rangeOf (.loop c) = some r) : c = r.code := by
  unfold rangeOf at h
  split at h
  · rename_i heq
    cases heq
    split at h
    · rename_i hq
      obtain ⟨rfl, rfl, rfl, rfl⟩ := hq
      split at h
      · split at h
        · rename_i hq
          obtain ⟨rfl, rfl⟩ := hq
          cases h; rfl
        · cases h
      · split at h
        · rename_i hq
          obtain ⟨rfl, rfl⟩ := hq
          cases h; rfl
        · cases h
      · cases h
    · cases h
  · cases h

theorem env_get_set : ∀ (e : Env) (d : Nat) (v : AV) (i : Nat), (e.set d v).get i = if i = d then v else e.get i
  | [], 0, v, i => by cases i <;> simp [Env.set, Env.get]
  | [], d + 1, v, i => by
    cases i with
    | zero => simp [Env.set, Env.get]
    | succ i =>
      have := env_get_set [] d v i
      simp only [Env.set, Env.get, List.getD_cons_succ] at this ⊢
      rw [this]; simp
  | x :: e, 0, v, i => by cases i <;> simp [Env.set, Env.get]
  | x :: e, d + 1, v, i => by
    cases i with
    | zero => simp [Env.set, Env.get]
    | succ i =>
      have := env_get_set e d v i
      simp only [Env.set, Env.get, List.getD_cons_succ] at this ⊢
      rw [this]; simp

/-- what these places hold stays, where it names nothing that can go -/
def Keeps (ts : List Nat) (e e' : Env) : Prop := ∀ t ∈ ts, (∀ B S, (e.get t).nf B S = true) → e'.get t = e.get t

theorem Keeps.refl (ts : List Nat) (e : Env) : Keeps ts e e := fun _ _ _ => rfl
theorem Keeps.trans {ts : List Nat} {e e1 e2 : Env} (h : Keeps ts e e1) (h' : Keeps ts e1 e2) : Keeps ts e e2 := fun t ht hn => by
  have h1 := h t ht hn
  rw [h' t ht (by rw [h1]; exact hn), h1]

theorem trim_get_env (nb : Nat) (s : St) (t : Nat) (h : ∀ B S, (s.env.get t).nf B S = true) : (trimS nb s).env.get t = s.env.get t := by
  unfold trimS
  split
  · simp only [Env.get, List.getD_eq_getElem?_getD, List.getElem?_map] at h ⊢
    cases ht : s.env[t]? with
    | none => simp
    | some v =>
      rw [ht] at h
      simp only [Option.getD_some] at h
      simp [h]
  · rfl

theorem Keeps.trim {ts : List Nat} {e : Env} {nb : Nat} {s : St} (h : Keeps ts e s.env) : Keeps ts e (trimS nb s).env := fun t ht hn => by
  have h1 := h t ht hn
  rw [trim_get_env nb s t (by rw [h1]; exact hn), h1]

theorem Keeps.set {ts : List Nat} {e : Env} {d : Nat} {v : AV} (h : d ∉ ts) : Keeps ts e (e.set d v) := fun t ht _ => by
  rw [env_get_set, if_neg]
  rintro rfl
  exact h ht

theorem Keeps.setDst {ts : List Nat} {e : Env} {d : Option Nat} {v : AV} (h : (match d with | some d => !ts.contains d | none => true) = true) : Keeps ts e (setDst e d v) := by
  cases d with
  | none => exact .refl _ _
  | some d => exact .set (by simpa using h)

theorem evalOper_keeps {K : CallF} {rnd : Option Nat} {ts : List Nat} {o : AOper} {s s' : St} (h : (match o.dst with | some d => !ts.contains d | none => true) = true) (e : evalOper Q K rnd o s = some s') : Keeps ts s.env s'.env := by
  unfold evalOper at e
  split at e
  · cases e
  · cases e; exact .setDst h
  · split at e
    · split at e
      · cases e
      · split at e
        · split at e
          · cases e; exact .setDst h
          · cases e
        · cases e
    · split at e
      · cases e; exact .setDst h
      · cases e

theorem evalOps_keeps {K : CallF} {rnd : Option Nat} {ts : List Nat} : ∀ {os : List AOper} {s s' : St}, (os.all fun o => match o.dst with | some d => !ts.contains d | none => true) = true → evalOps Q K rnd os s = some s' → Keeps ts s.env s'.env
  | [], s, s', _, e => by cases e; exact .refl _ _
  | o :: os, s, s', h, e => by
    simp only [List.all_cons, Bool.and_eq_true] at h
    simp only [evalOps] at e
    split at e
    · rename_i h1
      exact (evalOper_keeps h.1 h1).trans (evalOps_keeps h.2 e)
    · cases e

theorem evalDraw_keeps {K : CallF} {rnd : Option Nat} {ts : List Nat} : ∀ {os : List AOper} {fs : List (List Loc × List Loc)} {s s' : St}, (os.all fun o => match o.dst with | some d => !ts.contains d | none => true) = true → evalDraw Q K rnd os fs s = some s' → Keeps ts s.env s'.env
  | [], fs, s, s', _, e => by cases e; exact .refl _ _
  | o :: os, fs, s, s', h, e => by
    simp only [List.all_cons, Bool.and_eq_true] at h
    simp only [evalDraw] at e
    split at e
    · cases e
    · rename_i s1 h1
      have k1 := evalOper_keeps h.1 h1
      split at e
      · have k2 := evalDraw_keeps h.2 e
        exact k1.trans k2
      · cases e

def BKeeps (ts : List Nat) (b : St → Option (Ex × St)) : Prop := ∀ s ex s', b s = some (ex, s') → Keeps ts s.env s'.env

theorem iterN_keeps {ts : List Nat} {b : St → Option (Ex × St)} (hb : BKeeps ts b) : ∀ n, BKeeps ts (iterN n b)
  | 0 => fun s ex s' e => by cases e
  | n + 1 => fun s ex s' e => by
    simp only [iterN] at e
    split at e
    · rename_i h1; exact (hb _ _ _ h1).trans (iterN_keeps hb n _ _ _ e)
    · exact hb _ _ _ e

theorem spares_keeps {K : CallF} {n : Nat} {rnd : Option Nat} {ts : List Nat} : ∀ c : ACode, spares ts c = true → BKeeps ts (evalC Q K (iterN n) rnd c)
  | .skip, _ => fun s ex s' e => by simp only [evalC] at e; cases e; exact .refl _ _
  | .region false ops, h => fun s ex s' e => by
    simp only [evalC] at e
    split at e
    · rename_i h1; cases e; exact evalOps_keeps h h1
    · cases e
  | .region true ops, h => fun s ex s' e => by
    simp only [evalC] at e
    split at e
    · rename_i h1; cases e; exact evalDraw_keeps h h1
    · cases e
  | .seq a b, h => fun s ex s' e => by
    simp only [spares, Bool.and_eq_true] at h
    simp only [evalC] at e
    split at e
    · rename_i h1; exact (spares_keeps a h.1 _ _ _ h1).trans (spares_keeps b h.2 _ _ _ e)
    · exact spares_keeps a h.1 _ _ _ e
  | .cond c a b, h => fun s ex s' e => by
    simp only [spares, Bool.and_eq_true] at h
    simp only [evalC] at e
    split at e
    · exact spares_keeps a h.1 _ _ _ e
    · exact spares_keeps b h.2 _ _ _ e
    · cases e
  | .block id c, h => fun s ex s' e => by
    simp only [evalC] at e
    split at e
    · rename_i h1
      split at e <;> cases e <;> exact spares_keeps c h _ _ _ h1
    · exact spares_keeps c h _ _ _ e
  | .loop c, h => fun s ex s' e => by
    simp only [evalC] at e
    refine iterN_keeps (fun s ex s' e => ?_) n _ _ _ e
    cases h1 : evalC Q K (iterN n) rnd c s with
    | none => simp only [h1, trimR] at e; cases e
    | some x =>
      obtain ⟨ex1, s1⟩ := x
      simp only [h1, trimR] at e
      cases e
      exact (spares_keeps c h _ _ _ h1).trim
  | .rfunc f ps a b, _ => fun s ex s' e => by
    simp only [evalC] at e
    split at e
    · split at e
      · split at e
        · cases e
        · split at e
          · cases e; exact .refl _ _
          · cases e; exact .refl _ _
        · cases e
      · cases e
    · cases e
  | .exit id, _ => fun s ex s' e => by simp only [evalC] at e; cases e; exact .refl _ _
  | .scope c, h => fun s ex s' e => by simp only [evalC] at e; exact spares_keeps c h _ _ _ e
  | .ret, _ => fun s ex s' e => by simp only [evalC] at e; cases e; exact .refl _ _
  | .bad, _ => fun s ex s' e => by simp only [evalC] at e; cases e

theorem trimS_same {s s1 : St} (h : s1.h.nb = s.h.nb) : trimS s.h.nb s1 = s1 := by
  unfold trimS canTrim
  simp [h]

/-- what a round does behind the element's load -/
def evalB (Q : AProg) (n : Nat) (rnd : Option Nat) (r : RInf) (s : St) : Option (Ex × St) :=
  match evalOps Q (callN Q n) rnd r.more s with
  | some s1 => match r.body with
    | some c => evalC Q (callN Q n) (iterN n) rnd c s1
    | none => some (.norm, s1)
  | none => none

structure RSep (r : RInf) : Prop where
  sp : spares [r.ti, r.tl, r.ts] (.seq (.region false r.more) (r.body.getD .skip)) = true
  ne : r.ta ≠ r.ti ∧ r.ta ≠ r.tl ∧ r.ta ≠ r.ts ∧ r.tv ≠ r.ti ∧ r.tv ≠ r.tl ∧ r.tv ≠ r.ts ∧ r.tc ≠ r.ti ∧ r.tc ≠ r.tl ∧ r.tc ≠ r.ts ∧ r.tn ≠ r.ti ∧ r.tn ≠ r.tl ∧ r.tn ≠ r.ts ∧ r.ti ≠ r.tl ∧ r.ti ≠ r.ts

structure RAt (r : RInf) (xs0 : List AV) (p : Perm) (j : Nat) (s : St) : Prop where
  ts : s.env.get r.ts = .slice xs0 p
  tl : s.env.get r.tl = .int .i64 xs0.length
  ti : s.env.get r.ti = .int .i64 j
  pt : ∀ B S, (AV.slice xs0 p).nf B S = true
  small : xs0.length < 4611686018427387904

theorem evalB_keeps {r : RInf} (hs : RSep r) {n : Nat} {rnd : Option Nat} {s s' : St} {ex : Ex} (e : evalB Q n rnd r s = some (ex, s')) : Keeps [r.ti, r.tl, r.ts] s.env s'.env := by
  have h := hs.sp
  simp only [spares, Bool.and_eq_true] at h
  unfold evalB at e
  split at e
  · rename_i s1 h1
    have k1 := evalOps_keeps h.1 h1
    split at e
    · rename_i c hc
      rw [hc] at h
      exact k1.trans (spares_keeps c h.2 _ _ _ e)
    · cases e; exact k1
  · cases e

theorem RAt.keep {r : RInf} {xs0 : List AV} {p : Perm} {j : Nat} {s s' : St} (h : RAt r xs0 p j s) (k : Keeps [r.ti, r.tl, r.ts] s.env s'.env) : RAt r xs0 p j s' where
  ts := by rw [k r.ts (by simp) (by rw [h.ts]; exact h.pt), h.ts]
  tl := by rw [k r.tl (by simp) (by rw [h.tl]; intros; rfl), h.tl]
  ti := by rw [k r.ti (by simp) (by rw [h.ti]; intros; rfl), h.ti]
  pt := h.pt
  small := h.small

theorem RAt.first {r : RInf} (hs : RSep r) {xs0 : List AV} {p : Perm} {j : Nat} {s : St} (h : RAt r xs0 p j s) {x : AV} {xs : List AV} (hx : xs0.drop j = x :: xs) (hc : x.hasCells r.sz = true) {v : AV} (hv : cellAt r.ag r.sz2 (x.cellsD r.sz) 0 = some v)
    {n : Nat} {rnd : Option Nat} {s' : St} {ex : Ex}
    (e : evalB Q n rnd r { s with env := ((s.env.set r.tc (.bool true)).set r.ta (.eptr (x.cellsD r.sz) 0)).set r.tv v } = some (ex, s')) :
    evalC Q (callN Q n) (iterN n) rnd r.inner { s with env := s.env.set r.tc (.bool true) } = some (ex, s') := by
  obtain ⟨a1, a2, a3, a4, a5, a6, a7, a8, a9, a10, a11, a12, a13, a14⟩ := hs.ne
  have hj : j < xs0.length := by
    rcases Nat.lt_or_ge j xs0.length with h | h
    · exact h
    · rw [List.drop_eq_nil_of_le h] at hx; cases hx
  have hxj : xs0.getD j .junk = x := by
    have := congrArg (fun l => l[0]?) hx
    simp only [List.getElem?_drop, List.getElem?_cons_zero, Nat.add_zero] at this
    simp [List.getD_eq_getElem?_getD, this]
  obtain ⟨q1, q2⟩ := cellsD_of hc
  have o1 : evalOper Q (callN Q n) rnd ⟨some r.ta, .iaddr none r.sz (.t r.ts) (.t r.ti), none, []⟩ { s with env := s.env.set r.tc (.bool true) } =
      some { s with env := (s.env.set r.tc (.bool true)).set r.ta (.eptr (x.cellsD r.sz) 0) } := by
    have e1 : AO.ev (s.env.set r.tc (.bool true)) (.t r.ti) = .int .i64 j := by simp only [AO.ev, env_get_set, if_neg (Ne.symm a7), h.ti]
    have e2 : AO.ev (s.env.set r.tc (.bool true)) (.t r.ts) = .slice xs0 p := by simp only [AO.ev, env_get_set, if_neg (Ne.symm a9), h.ts]
    have e3 : (0 : Int) ≤ j ∧ (j : Int) < xs0.length := ⟨by omega, by omega⟩
    simp only [evalOper, wantedA, opA, e1, e2, e3, and_self, if_true, Int.toNat_natCast, hxj, q1, q2, setDst]
  have o2 : evalOper Q (callN Q n) rnd ⟨some r.tv, .load r.ag r.sz2 (.t r.ta), none, []⟩ { s with env := (s.env.set r.tc (.bool true)).set r.ta (.eptr (x.cellsD r.sz) 0) } =
      some { s with env := ((s.env.set r.tc (.bool true)).set r.ta (.eptr (x.cellsD r.sz) 0)).set r.tv v } := by
    have e1 : AO.ev ((s.env.set r.tc (.bool true)).set r.ta (.eptr (x.cellsD r.sz) 0)) (.t r.ta) = .eptr (x.cellsD r.sz) 0 := by simp only [AO.ev, env_get_set, if_true]
    simp only [evalOper, wantedA, opA, e1, hv, setDst]
  unfold evalB at e
  unfold RInf.inner
  split at e
  · rename_i s1 h1
    cases hb : r.body with
    | some c =>
      simp only [hb] at e
      simp only [evalC, evalOps, o1, o2, h1]
      exact e
    | none =>
      simp only [hb] at e
      cases e
      simp only [evalC, evalOps, o1, o2, h1]
  · cases e

theorem round_next {r : RInf} (hs : RSep r) {xs0 : List AV} {p : Perm} {j : Nat} {s s' : St} (h : RAt r xs0 p j s') (hj : j < xs0.length) {K : CallF} {n : Nat} {rnd : Option Nat} (h0 : RAt r xs0 p j s)
    (e : evalC Q K (iterN n) rnd (.block r.id2 r.inner) { s with env := s.env.set r.tc (.bool true) } = some (.norm, s')) :
    evalC Q K (iterN n) rnd r.code s = some (.norm, { s' with env := (s'.env.set r.tn (.int .i64 (j + 1))).set r.ti (.int .i64 (j + 1)) }) := by
  obtain ⟨a1, a2, a3, a4, a5, a6, a7, a8, a9, a10, a11, a12, a13, a14⟩ := hs.ne
  have hw : IntKind.i64.wrap ((j : Int) + 1) = j + 1 := by
    have := h.small
    exact IntWalk.i64_in _ (by omega)
  have o1 : evalOps Q K rnd [⟨some r.tc, .bin .lss (.t r.ti) (.t r.tl), none, []⟩] s = some { s with env := s.env.set r.tc (.bool true) } := by
    have : decide ((j : Int) < (xs0.length : Int)) = true := decide_eq_true (by omega)
    simp only [evalOps, evalOper, wantedA, opA, AO.ev, h0.ti, h0.tl, binA, binInt, if_true, this, setDst]
  have o2 : AO.ev (s.env.set r.tc (.bool true)) (.t r.tc) = .bool true := by simp only [AO.ev, env_get_set, if_true]
  have o3 : evalOps Q K rnd [⟨some r.tn, .bin .add (.t r.ti) (.c (.int .i64 1)), none, []⟩, ⟨some r.ti, .mv (.t r.tn), none, []⟩] s' =
      some { s' with env := (s'.env.set r.tn (.int .i64 (j + 1))).set r.ti (.int .i64 (j + 1)) } := by
    simp only [evalOps, evalOper, wantedA, opA, AO.ev, h.ti, binA, binInt, if_true, hw, setDst, env_get_set]
  have e0 : evalC Q K (iterN n) rnd (.region false [⟨some r.tc, .bin .lss (.t r.ti) (.t r.tl), none, []⟩]) s = some (.norm, { s with env := s.env.set r.tc (.bool true) }) := by simp only [evalC, o1]
  have e1 : evalC Q K (iterN n) rnd (.cond (.t r.tc) .skip (.exit r.id)) { s with env := s.env.set r.tc (.bool true) } = some (.norm, { s with env := s.env.set r.tc (.bool true) }) := by simp only [evalC, o2]
  have e3 : evalC Q K (iterN n) rnd (.region false [⟨some r.tn, .bin .add (.t r.ti) (.c (.int .i64 1)), none, []⟩, ⟨some r.ti, .mv (.t r.tn), none, []⟩]) s' = some (.norm, { s' with env := (s'.env.set r.tn (.int .i64 (j + 1))).set r.ti (.int .i64 (j + 1)) }) := by simp only [evalC, o3]
  unfold RInf.code
  rw [evalC, e0]
  simp only
  rw [evalC, e1]
  simp only
  rw [evalC, e]
  exact e3

theorem round_out {r : RInf} {xs0 : List AV} {p : Perm} {j : Nat} {s s' : St} (h0 : RAt r xs0 p j s) (hj : j < xs0.length) {K : CallF} {n : Nat} {rnd : Option Nat} {ex : Ex} (hx : ex ≠ .norm)
    (e : evalC Q K (iterN n) rnd (.block r.id2 r.inner) { s with env := s.env.set r.tc (.bool true) } = some (ex, s')) :
    evalC Q K (iterN n) rnd r.code s = some (ex, s') := by
  have o1 : evalOps Q K rnd [⟨some r.tc, .bin .lss (.t r.ti) (.t r.tl), none, []⟩] s = some { s with env := s.env.set r.tc (.bool true) } := by
    have : decide ((j : Int) < (xs0.length : Int)) = true := decide_eq_true (by omega)
    simp only [evalOps, evalOper, wantedA, opA, AO.ev, h0.ti, h0.tl, binA, binInt, if_true, this, setDst]
  have o2 : AO.ev (s.env.set r.tc (.bool true)) (.t r.tc) = .bool true := by simp only [AO.ev, env_get_set, if_true]
  have e0 : evalC Q K (iterN n) rnd (.region false [⟨some r.tc, .bin .lss (.t r.ti) (.t r.tl), none, []⟩]) s = some (.norm, { s with env := s.env.set r.tc (.bool true) }) := by simp only [evalC, o1]
  have e1 : evalC Q K (iterN n) rnd (.cond (.t r.tc) .skip (.exit r.id)) { s with env := s.env.set r.tc (.bool true) } = some (.norm, { s with env := s.env.set r.tc (.bool true) }) := by simp only [evalC, o2]
  unfold RInf.code
  rw [evalC, e0]
  simp only
  rw [evalC, e1]
  simp only
  rw [evalC, e]
  cases ex with
  | norm => exact absurd rfl hx
  | exit _ => rfl
  | ret => rfl

theorem round_end {r : RInf} {xs0 : List AV} {p : Perm} {s : St} (h0 : RAt r xs0 p xs0.length s) {K : CallF} {n : Nat} {rnd : Option Nat} :
    evalC Q K (iterN n) rnd r.code s = some (.exit r.id, { s with env := s.env.set r.tc (.bool false) }) := by
  have o1 : evalOps Q K rnd [⟨some r.tc, .bin .lss (.t r.ti) (.t r.tl), none, []⟩] s = some { s with env := s.env.set r.tc (.bool false) } := by
    have : decide ((xs0.length : Int) < (xs0.length : Int)) = false := decide_eq_false (by omega)
    simp only [evalOps, evalOper, wantedA, opA, AO.ev, h0.ti, h0.tl, binA, binInt, if_true, this, setDst]
  have o2 : AO.ev (s.env.set r.tc (.bool false)) (.t r.tc) = .bool false := by simp only [AO.ev, env_get_set, if_true]
  have e0 : evalC Q K (iterN n) rnd (.region false [⟨some r.tc, .bin .lss (.t r.ti) (.t r.tl), none, []⟩]) s = some (.norm, { s with env := s.env.set r.tc (.bool false) }) := by simp only [evalC, o1]
  have e1 : evalC Q K (iterN n) rnd (.cond (.t r.tc) .skip (.exit r.id)) { s with env := s.env.set r.tc (.bool false) } = some (.exit r.id, { s with env := s.env.set r.tc (.bool false) }) := by simp only [evalC, o2]
  unfold RInf.code
  rw [evalC, e0]
  simp only
  rw [evalC, e1]
end
end Am
end
section
namespace Am
open Go

section
variable {R : Type} {Q : AProg} {C : CallX R}

theorem RAt.next {r : RInf} (hs : RSep r) {xs0 : List AV} {p : Perm} {j : Nat} {s : St} (h : RAt r xs0 p j s) (nb : Nat) :
    RAt r xs0 p (j + 1) (trimS nb { s with env := (s.env.set r.tn (.int .i64 (j + 1))).set r.ti (.int .i64 (j + 1)) }) := by
  obtain ⟨a1, a2, a3, a4, a5, a6, a7, a8, a9, a10, a11, a12, a13, a14⟩ := hs.ne
  have e1 : ((s.env.set r.tn (.int .i64 (j + 1))).set r.ti (.int .i64 (j + 1))).get r.ts = .slice xs0 p := by
    simp only [env_get_set, if_neg (Ne.symm a14), if_neg (Ne.symm a12), h.ts]
  have e2 : ((s.env.set r.tn (.int .i64 (j + 1))).set r.ti (.int .i64 (j + 1))).get r.tl = .int .i64 xs0.length := by
    simp only [env_get_set, if_neg (Ne.symm a13), if_neg (Ne.symm a11), h.tl]
  have e3 : ((s.env.set r.tn (.int .i64 (j + 1))).set r.ti (.int .i64 (j + 1))).get r.ti = .int .i64 (j + 1) := by
    simp only [env_get_set, if_true]
  refine ⟨?_, ?_, ?_, h.pt, h.small⟩
  · rw [trim_get_env _ _ _ (by rw [e1]; exact h.pt), e1]
  · rw [trim_get_env _ _ _ (by rw [e2]; intros; rfl), e2]
  · rw [trim_get_env _ _ _ (by rw [e3]; intros; rfl), e3]; rfl

theorem RAt.sets {r : RInf} (hs : RSep r) {xs0 : List AV} {p : Perm} {j : Nat} {s : St} (h : RAt r xs0 p j s) (a b c : AV) :
    RAt r xs0 p j { s with env := ((s.env.set r.tc a).set r.ta b).set r.tv c } := by
  obtain ⟨a1, a2, a3, a4, a5, a6, a7, a8, a9, a10, a11, a12, a13, a14⟩ := hs.ne
  refine ⟨?_, ?_, ?_, h.pt, h.small⟩
  · simp only [env_get_set, if_neg (Ne.symm a6), if_neg (Ne.symm a3), if_neg (Ne.symm a9), h.ts]
  · simp only [env_get_set, if_neg (Ne.symm a5), if_neg (Ne.symm a2), if_neg (Ne.symm a8), h.tl]
  · simp only [env_get_set, if_neg (Ne.symm a4), if_neg (Ne.symm a1), if_neg (Ne.symm a7), h.ti]

theorem rangeX_ok {rnd : Option Nat} {r : RInf} (hs : RSep r) {b : St → KS R → Option R}
    (hb : ∀ s k x, b s k = some x → ∃ ex s', (Ev fun n => evalB Q n rnd r s = some (ex, s')) ∧ k ex s' = some x) {xs0 : List AV} {p : Perm} :
    ∀ (xs : List AV) (j : Nat) (s : St) (k : KS R) (x : R), xs0.drop j = xs → j ≤ xs0.length → RAt r xs0 p j s → rangeX r b xs j s k = some x →
    ∃ ex s', EvL Q rnd r.code s ex s' ∧ k ex s' = some x
  | [], j, s, k, x, hd, hj, ha, E => by
    have hj : j = xs0.length := by have := List.drop_eq_nil_iff.1 hd; omega
    subst hj
    simp only [rangeX] at E
    refine ⟨_, _, ?_, E⟩
    have h1 : EvC Q rnd r.code s (.exit r.id) { s with env := s.env.set r.tc (.bool false) } := .all fun n => round_end ha
    have := EvL.of_end h1 (by simp)
    have e := trimS_same (s := s) (s1 := { s with env := s.env.set r.tc (.bool false) }) rfl
    rw [e] at this
    exact this
  | v0 :: xs, j, s, k, x, hd, hj, ha, E => by
    have hlt : j < xs0.length := by
      rcases Nat.lt_or_ge j xs0.length with h | h
      · exact h
      · rw [List.drop_eq_nil_of_le h] at hd; cases hd
    have hd' : xs0.drop (j + 1) = xs := by
      rw [← List.drop_drop, hd]; rfl
    simp only [rangeX] at E
    obtain ⟨hc, E⟩ := chk_some E
    split at E
    · rename_i v hv
      obtain ⟨ex, s1, h1, h2⟩ := hb _ _ _ E
      obtain ⟨N, hN⟩ := id h1
      have hk := evalB_keeps hs (hN N (Nat.le_refl _))
      have ha1 : RAt r xs0 p j s1 := (ha.sets hs _ _ _).keep hk
      have hin := h1.mono fun n hn => ha.first hs hd hc hv hn
      have hcast : ((j + 1 : Nat) : Int) = (j : Int) + 1 := by omega
      have hnext : ∀ ex1, (Ev fun n => evalC Q (callN Q n) (iterN n) rnd (.block r.id2 r.inner) { s with env := s.env.set r.tc (.bool true) } = some (.norm, s1)) →
          rangeX r b xs ((j : Int) + 1) (trimS s.h.nb { s1 with env := (s1.env.set r.tn (.int .i64 (j + 1))).set r.ti (.int .i64 (j + 1)) }) k = some x → ex = ex1 →
          ∃ ex s', EvL Q rnd r.code s ex s' ∧ k ex s' = some x := by
        intro _ hbl E2 _
        obtain ⟨ex2, s2, h3, h4⟩ := rangeX_ok hs hb xs (j + 1) _ k x hd' (by omega) (ha1.next hs _) (by rw [hcast]; exact E2)
        exact ⟨ex2, s2, .of_step (hbl.mono fun n hn => round_next hs ha1 hlt ha hn) h3, h4⟩
      cases ex with
      | norm => exact hnext _ (hin.mono fun n hn => by simp only [evalC, hn]) h2 rfl
      | exit id' =>
        simp only at h2
        split at h2
        · rename_i hid
          exact hnext _ (hin.mono fun n hn => by simp only [evalC, hn, hid, if_true]) h2 rfl
        · rename_i hid
          exact ⟨_, _, .of_end (hin.mono fun n hn => round_out ha hlt (by simp) (by simp only [evalC, hn, hid, if_false])) (by simp), h2⟩
      | ret => exact ⟨_, _, .of_end (hin.mono fun n hn => round_out ha hlt (by simp) (by simp only [evalC, hn])) (by simp), h2⟩
    · cases E

theorem isRng_ok {lt : LtX R} {c : ACode} {s : St} {r : RInf} {xs : List AV} (h : isRng lt c s = some (r, xs)) :
    rangeOf c = some r ∧ lt r.id2 = none ∧ RSep r ∧ ∃ p, s.env.get r.ts = .slice xs p ∧ ∀ B S, (AV.slice xs p).nf B S = true := by
  unfold isRng at h
  split at h
  · rename_i r' hr
    split at h
    · rename_i hq
      simp only [Bool.and_eq_true, decide_eq_true_eq] at hq
      split at h
      · cases h
      · rename_i xs' p hn hts
        cases h
        refine ⟨hr, by simpa using hq.1.1, ⟨hq.1.2, hq.2⟩, p, hts, fun B S => ?_⟩
        cases p with
        | tok t => exact (hn _ rfl).elim
        | _ => rfl
      · cases h
    · cases h
  · cases h

/-- what is known of a block is so -/
def FOk (Q : AProg) (rnd : Option Nat) (c : ACode) (F : St → KS R → Option R) : Prop := ∀ s k x, F s k = some x → ∃ ex s', EvC Q rnd c s ex s' ∧ k ex s' = some x
def LtOk (Q : AProg) (rnd : Option Nat) (lt : LtX R) : ACode → Prop
  | .seq a b => LtOk Q rnd lt a ∧ LtOk Q rnd lt b
  | .cond _ a b => LtOk Q rnd lt a ∧ LtOk Q rnd lt b
  | .block id c => match lt id with
    | some F => FOk Q rnd (.block id c) F
    | none => LtOk Q rnd lt c
  | .loop c => LtOk Q rnd lt c
  | .scope c => LtOk Q rnd lt c
  | _ => True

theorem LtOk.none {rnd : Option Nat} : ∀ c : ACode, LtOk (R := R) Q rnd (fun _ => none) c
  | .seq a b => ⟨LtOk.none a, LtOk.none b⟩
  | .cond _ a b => ⟨LtOk.none a, LtOk.none b⟩
  | .block _ c => LtOk.none c
  | .loop c => LtOk.none c
  | .scope c => LtOk.none c
  | .skip | .region _ _ | .rfunc .. | .exit _ | .ret | .bad => trivial

theorem evalX_ok (hC : CallOk Q C) {lt : LtX R} {m : Nat} {rnd : Option Nat} : ∀ (d : Nat) (c : ACode), LtOk Q rnd lt c → CodeOk Q rnd c (evalX Q C lt m rnd d c)
  | 0, c => fun _ s k x E => by simp only [evalX] at E; cases E
  | d + 1, .skip => fun hl s k x E => by simp only [evalX] at E; exact ⟨_, _, .all fun _ => rfl, E⟩
  | d + 1, .region false ops => fun hl s k x E => by
    simp only [evalX] at E
    obtain ⟨s1, h1, h2⟩ := opsX_ok hC E
    exact ⟨_, _, h1.mono fun n hn => by simp only [evalC, hn], h2⟩
  | d + 1, .region true ops => fun hl s k x E => by
    simp only [evalX] at E
    obtain ⟨s1, h1, h2⟩ := drawX_ok hC E
    exact ⟨_, _, h1.mono fun n hn => by simp only [evalC, hn], h2⟩
  | d + 1, .seq a b => fun hl s k x E => by
    simp only [evalX] at E
    obtain ⟨ex, s1, h1, h2⟩ := evalX_ok hC d a hl.1 _ _ _ E
    cases ex with
    | norm =>
      obtain ⟨ex2, s2, h3, h4⟩ := evalX_ok hC d b hl.2 _ _ _ h2
      exact ⟨_, _, (h1.and h3).mono fun n hn => by simp only [evalC, hn.1]; exact hn.2, h4⟩
    | exit id => exact ⟨_, _, h1.mono fun n hn => by simp only [evalC, hn], h2⟩
    | ret => exact ⟨_, _, h1.mono fun n hn => by simp only [evalC, hn], h2⟩
  | d + 1, .cond c a b => fun hl s k x E => by
    simp only [evalX] at E
    split at E
    · rename_i i
      split at E
      · rename_i t ht
        have hset : s.env.set i (.bool t) = s.env := Env.set_self _ _ _ ht (by simp)
        rcases cond_some E with ⟨rfl, E1⟩ | ⟨rfl, E1⟩
        · rw [hset] at E1
          obtain ⟨ex, s1, h1, h2⟩ := evalX_ok hC d a hl.1 _ _ _ E1
          exact ⟨_, _, h1.mono fun n hn => by simp only [evalC, AO.ev, ht]; exact hn, h2⟩
        · rw [hset] at E1
          obtain ⟨ex, s1, h1, h2⟩ := evalX_ok hC d b hl.2 _ _ _ E1
          exact ⟨_, _, h1.mono fun n hn => by simp only [evalC, AO.ev, ht]; exact hn, h2⟩
      · cases E
    · rename_i v
      split at E
      · rename_i t
        rcases cond_some E with ⟨rfl, E1⟩ | ⟨rfl, E1⟩
        · obtain ⟨ex, s1, h1, h2⟩ := evalX_ok hC d a hl.1 _ _ _ E1
          exact ⟨_, _, h1.mono fun n hn => by simp only [evalC, AO.ev]; exact hn, h2⟩
        · obtain ⟨ex, s1, h1, h2⟩ := evalX_ok hC d b hl.2 _ _ _ E1
          exact ⟨_, _, h1.mono fun n hn => by simp only [evalC, AO.ev]; exact hn, h2⟩
      · cases E
  | d + 1, .block id c => fun hl s k x E => by
    simp only [evalX] at E
    simp only [LtOk] at hl
    split at E
    · rename_i F hF
      rw [hF] at hl
      exact hl _ _ _ E
    rename_i hF
    rw [hF] at hl
    obtain ⟨ex, s1, h1, h2⟩ := evalX_ok hC d c hl _ _ _ E
    cases ex with
    | norm => exact ⟨_, _, h1.mono fun n hn => by simp only [evalC, hn], h2⟩
    | exit id' =>
      simp only at h2
      split at h2
      · rename_i hid; exact ⟨_, _, h1.mono fun n hn => by simp only [evalC, hn, hid, if_true], h2⟩
      · rename_i hid; exact ⟨_, _, h1.mono fun n hn => by simp only [evalC, hn, hid, if_false], h2⟩
    | ret => exact ⟨_, _, h1.mono fun n hn => by simp only [evalC, hn], h2⟩
  | d + 1, .loop c => fun hl s k x E => by
    simp only [evalX] at E
    split at E
    · rename_i r xs hr
      obtain ⟨hr1, hid2, hs, p, hts, hp⟩ := isRng_ok hr
      have hc := rangeOf_code hr1
      subst hc
      split at E
      · rename_i z n hti htl
        obtain ⟨q1, E1⟩ := chk_some E
        obtain ⟨q2, E2⟩ := chk_some E1
        obtain ⟨q3, E3⟩ := chk_some E2
        have q1 : z = 0 := by simpa using q1
        have q2 : n = (xs.length : Int) := by simpa using q2
        have q3 := of_decide_eq_true q3
        clear E E1 E2
        subst q1
        subst q2
        have hb : ∀ s k x, (opsX Q C rnd r.more s fun s' => match r.body with
              | none => k .norm s'
              | some b => evalX Q C lt m rnd d b s' k) = some x → ∃ ex s', (Ev fun n => evalB Q n rnd r s = some (ex, s')) ∧ k ex s' = some x := by
          intro s k x E
          obtain ⟨s1, h1, h2⟩ := opsX_ok hC E
          split at h2
          · rename_i hb
            exact ⟨_, _, h1.mono fun n hn => by simp only [evalB, hn, hb], h2⟩
          · rename_i b hb
            have hlb : LtOk Q rnd lt b := by
              simp only [LtOk, RInf.code, RInf.inner, hid2, hb] at hl
              exact hl.2.2.1.2
            obtain ⟨ex, s2, h3, h4⟩ := evalX_ok hC d b hlb _ _ _ h2
            exact ⟨_, _, (h1.and h3).mono fun n hn => by simp only [evalB, hn.1, hb]; exact hn.2, h4⟩
        obtain ⟨ex, s', h1, h2⟩ := rangeX_ok hs hb (p := p) xs 0 s k x rfl (Nat.zero_le _) ⟨hts, htl, hti, hp, q3⟩ E3
        exact ⟨ex, s', h1.code, h2⟩
      · cases E
    · obtain ⟨ex, s', h1, h2⟩ := loopX_ok (evalX_ok hC d c hl) m _ _ _ E
      exact ⟨ex, s', h1.code, h2⟩
  | d + 1, .rfunc f ps a b => fun hl s k x E => by
    simp only [evalX] at E
    split at E
    · rename_i hrnd
      split at E
      · rename_i g cs hf
        obtain ⟨v, h', ⟨N, h1⟩, h2⟩ := hC _ _ _ _ _ E
        split at h2
        · cases h2
        · rename_i e' ps' a' b' st p hnb hg
          split at h2
          · rename_i hp
            refine ⟨_, _, ⟨N, fun n hn => ?_⟩, h2⟩
            simp only [evalC, hrnd, if_true, hf, h1 n hn]
            cases st with
            | busy => exact (hnb rfl).elim
            | ready => rw [hg]
            | done => rw [hg]
          · rename_i ex hp
            refine ⟨_, _, ⟨N, fun n hn => ?_⟩, h2⟩
            simp only [evalC, hrnd, if_true, hf, h1 n hn]
            cases st with
            | busy => exact (hnb rfl).elim
            | ready => rw [hg]
            | done => rw [hg]
        · cases h2
      · cases E
    · cases E
  | d + 1, .exit id => fun hl s k x E => by simp only [evalX] at E; exact ⟨_, _, .all fun _ => rfl, E⟩
  | d + 1, .scope c => fun hl s k x E => by
    simp only [evalX] at E
    obtain ⟨ex, s1, h1, h2⟩ := evalX_ok hC d c hl _ _ _ E
    exact ⟨_, _, h1.mono fun n hn => by simp only [evalC]; exact hn, h2⟩
  | d + 1, .ret => fun hl s k x E => by simp only [evalX] at E; exact ⟨_, _, .all fun _ => rfl, E⟩
  | d + 1, .bad => fun hl s k x E => by simp only [evalX] at E; cases E

theorem runDefersX_ok (hC : CallOk Q C) : ∀ {ds : List AD} {h : Heap} {k : Heap → Option R} {x : R}, runDefersX C ds h k = some x →
    ∃ h', (Ev fun n => runDefers (callN Q n) ds h = some h') ∧ k h' = some x
  | [], h, k, x, E => ⟨h, .all fun _ => rfl, E⟩
  | .mark :: ds, h, k, x, E => by
    simp only [runDefersX] at E
    obtain ⟨h', h1, h2⟩ := runDefersX_ok hC E
    exact ⟨h', h1.mono fun n hn => by simp only [runDefers]; exact hn, h2⟩
  | .call f ax :: ds, h, k, x, E => by
    simp only [runDefersX] at E
    obtain ⟨v, h1, ⟨N, h2⟩, h3⟩ := hC _ _ _ _ _ E
    obtain ⟨h', h4, h5⟩ := runDefersX_ok hC h3
    exact ⟨h', (Ev.and ⟨N, h2⟩ h4).mono fun n hn => by simp only [runDefers, hn.1]; exact hn.2, h5⟩

def BodyEv (Q : AProg) (tgt : Tgt) (args : List AV) (h : Heap) (v : AV) (h' : Heap) : Prop := Ev fun n => bodyB Q (callN Q n) (iterN n) tgt args h = some (v, h')

def LtabOk (Q : AProg) (lt : Nat → LtX R) : Prop := ∀ f nt res body, Q.codes f = some (.code nt res body) → LtOk Q none (lt f) body

theorem bodyBX_ok (hC : CallOk Q C) {lt : Nat → LtX R} (hlt : LtabOk Q lt) {m D : Nat} {tgt : Tgt} {args : List AV} {h : Heap} {k : KV R} {x : R} (E : bodyBX Q C lt m D tgt args h k = some x) :
    ∃ v h', BodyEv Q tgt args h v h' ∧ k v h' = some x := by
  unfold bodyBX at E
  split at E
  · rename_i f
    split at E
    · rename_i p hc
      split at E
      · rename_i v h' hp
        exact ⟨_, _, .all fun n => by simp only [bodyB, hc, hp], E⟩
      · cases E
    · rename_i nt res body hc
      split at E
      · rename_i hl
        obtain ⟨ex, s, h1, h2⟩ := evalX_ok hC D body (hlt f _ _ _ hc) _ _ _ E
        have fin : (ex = .norm ∨ ex = .ret) → (runDefersX C s.ds s.h fun h1 => match readRes s.env h1 res with
            | some (vs, h2) => if Q.keep f then k (keepH h h2 (tupOf vs)).1 (keepH h h2 (tupOf vs)).2 else match popH h h2 (tupOf vs) with
              | some (v, h') => k v h'
              | none => none
            | none => none) = some x → ∃ v h', BodyEv Q (.fn f) args h v h' ∧ k v h' = some x := by
          intro hex E2
          obtain ⟨h3, h4, h5⟩ := runDefersX_ok hC E2
          split at h5
          · rename_i vs h6 hr
            split at h5
            · rename_i hk
              refine ⟨_, _, (h1.and h4).mono fun n hn => ?_, h5⟩
              rcases hex with rfl | rfl <;> simp only [bodyB, hc, hl, if_true, hn.1, hn.2, hr, hk]
            · rename_i hk
              split at h5
              · rename_i v h' hpop
                refine ⟨v, h', (h1.and h4).mono fun n hn => ?_, h5⟩
                rcases hex with rfl | rfl <;> simp only [bodyB, hc, hl, if_true, hn.1, hn.2, hr, hk, Bool.false_eq_true, if_false, hpop]
              · cases h5
          · cases h5
        cases ex with
        | norm => exact fin (.inl rfl) h2
        | exit id => cases h2
        | ret => exact fin (.inr rfl) h2
      · cases E
    · cases E
  · rename_i l
    split at E
    · rename_i env ps a b p0 hg
      split at E
      · rename_i hl
        obtain ⟨ex1, s1, h1, h2⟩ := evalX_ok hC D a (LtOk.none a) _ _ _ E
        split at h2
        · rename_i e1 ps1 a1 b1 p1 hg1
          obtain ⟨ex, s2, h3, h4⟩ := evalX_ok hC D b (LtOk.none b) _ _ _ h2
          split at h4
          · rename_i e2 ps2 a2 b2 st2 p2 hg2
            split at h4
            · rename_i v h' hpop
              refine ⟨v, h', (h1.and h3).mono fun n hn => ?_, h4⟩
              simp only [bodyB, hg, hl, if_true, hn.1, hg1, hn.2, hg2]
              cases ex <;> exact hpop
            · cases h4
          · cases h4
        · cases h2
      · cases E
    · cases E

theorem bodyX_ok (hC : CallOk Q C) {lt : Nat → LtX R} (hlt : LtabOk Q lt) {m D : Nat} {tgt : Tgt} {args : List AV} {h : Heap} {k : KV R} {x : R} (E : bodyX Q C lt m D tgt args h k = some x) :
    ∃ v h', (Ev fun n => bodyA Q (callN Q n) (iterN n) tgt args h = some (v, h')) ∧ k v h' = some x := by
  unfold bodyX at E
  split at E
  · rename_i f
    split at E
    · rename_i hq
      split at E
      · rename_i hg
        obtain ⟨v, h1, h2, h3⟩ := bodyBX_ok hC hlt E
        split at h3
        · rename_i hw
          split at h3
          · rename_i hn
            refine ⟨v, logG Q.G h, h2.mono fun n e => ?_, h3⟩
            simp only [bodyA, hq, if_true, hg, e, hw, hn]
          · cases h3
        · cases h3
      · cases E
    · rename_i hq
      obtain ⟨v, h1, h2, h3⟩ := bodyBX_ok hC hlt E
      refine ⟨v, h1, h2.mono fun n e => ?_, h3⟩
      simp only [bodyA, hq, Bool.false_eq_true, if_false]
      exact e
  · obtain ⟨v, h1, h2, h3⟩ := bodyBX_ok hC hlt E
    exact ⟨v, h1, h2.mono fun n e => by simp only [bodyA]; exact e, h3⟩

theorem LimC.of_body {tgt : Tgt} {args : List AV} {h h' : Heap} {v : AV} (e : Ev fun n => bodyA Q (callN Q n) (iterN n) tgt args h = some (v, h')) : LimC Q tgt args h v h' := by
  obtain ⟨N, e⟩ := e
  refine ⟨N + 1, fun n hn => ?_⟩
  obtain ⟨i, rfl⟩ : ∃ i, n = i + 1 := ⟨n - 1, by omega⟩
  simp only [callN]
  exact e i (by omega)

theorem callX_ok {tab : TabX R} (ht : TabOk Q tab) {lt : Nat → LtX R} (hlt : LtabOk Q lt) {m D : Nat} : ∀ n, CallOk Q (callX Q tab lt m D n)
  | 0 => fun _ _ _ _ _ E => by simp only [callX] at E; cases E
  | n + 1 => fun tgt args h k x E => by
    simp only [callX] at E
    split at E
    · rename_i f
      split at E
      · rename_i F hF
        exact ht f F hF args h k x E
      · obtain ⟨v, h', h1, h2⟩ := bodyX_ok (callX_ok ht hlt n) hlt E
        exact ⟨v, h', .of_body h1, h2⟩
    · obtain ⟨v, h', h1, h2⟩ := bodyX_ok (callX_ok ht hlt n) hlt E
      exact ⟨v, h', .of_body h1, h2⟩
end
end Am
end
section
namespace Am
open Go

def objKey : Obj → Option (List Nat)
  | .dead => some [0]
  | .laid k => some [1, k]
  | .cells ty [.iface t (.sent i)] => some [2, ty, t, i]
  | .cells ty [.iface t (.agg [.hdl u])] => some [3, ty, t, u]
  | _ => none

theorem objKey_inj {a b : Obj} {k : List Nat} (ha : objKey a = some k) (hb : objKey b = some k) : a = b := by
  unfold objKey at ha hb
  split at ha <;> split at hb <;> simp_all <;> (subst ha; simp_all)

theorem keys_inj : ∀ {l l' : List Obj}, l.map objKey = l'.map objKey → (l'.all fun o => (objKey o).isSome) = true → l = l'
  | [], [], _, _ => rfl
  | a :: l, b :: l', h, hb => by
    simp only [List.map_cons, List.cons.injEq] at h
    simp only [List.all_cons, Bool.and_eq_true] at hb
    obtain ⟨k, hk⟩ := Option.isSome_iff_exists.1 hb.1
    rw [keys_inj h.2 hb.2, objKey_inj (h.1.trans hk) hk]
  | [], _ :: _, h, _ => by cases h
  | _ :: _, [], h, _ => by cases h

/-- the package variables hold what they hold at the start -/
def goodB (objs : List Obj) (h : Heap) : Bool := (h.boxes.drop (h.nb - objs.length)).map objKey == objs.reverse.map objKey

def LimH (Q : AProg) (objs : List Obj) (f : Nat) (args : List AV) (v : AV) : Prop :=
  ∀ h, goodB objs h = true → LimC Q (.fn f) args h v (logG objs.length h)

theorem ground_same {objs : List Obj} (ho : (objs.all fun o => (objKey o).isSome) = true) {h : Heap} (hg : goodB objs h = true) :
    h.boxes.drop (h.nb - objs.length) = (H0 objs).boxes.drop ((H0 objs).nb - objs.length) := by
  have h1 : (h.boxes.drop (h.nb - objs.length)).map objKey = objs.reverse.map objKey := eq_of_beq hg
  have h2 := keys_inj h1 (by rw [List.all_reverse]; exact ho)
  rw [h2]
  simp [H0]

theorem lift_ground {Q : AProg} {objs : List Obj} (hG : Q.G = objs.length) (ho : (objs.all fun o => (objKey o).isSome) = true) {f : Nat} {args : List AV} {v : AV} {h1 : Heap}
    (hp : (Q.isCode f && !Q.keep f && nfL Q.G 0 args) = true) (e : LimC Q (.fn f) args (H0 objs) v h1) : LimH Q objs f args v := by
  intro h hg
  obtain ⟨N, e⟩ := e
  refine ⟨N + 1, fun n hn => ?_⟩
  obtain ⟨i, rfl⟩ : ∃ i, n = i + 1 := ⟨n - 1, by omega⟩
  have e1 := e (i + 1) (by omega)
  have hs := ground_same ho hg
  have g1 : ground Q.G h = ground Q.G (H0 objs) := by simp only [ground, hG, hs]
  have g2 : groundOk Q.G h = groundOk Q.G (H0 objs) := by simp only [groundOk, hG, hs]
  simp only [callN, bodyA, hp, if_true] at e1 ⊢
  rw [g1, g2]
  split at e1
  · rename_i hok
    rw [if_pos hok]
    split at e1
    · rename_i v' h2 hb
      split at e1
      · rename_i hw
        split at e1
        · rename_i hn
          cases e1
          rw [if_pos hn, hG]
        · cases e1
      · cases e1
    · cases e1
  · cases e1

/-- what a function answers, in continuation-passing style -/
abbrev PS := (R : Type) → List AV → (AV → Option R) → Option R
def PS.Nice (S : PS) : Prop := ∀ (R : Type) (args : List AV) (k : AV → Option R), S R args k = (S AV args some).bind k
def PS.Ok (Q : AProg) (objs : List Obj) (f : Nat) (S : PS) : Prop := PS.Nice S ∧ ∀ args v, S AV args some = some v → LimH Q objs f args v

def tabOf (objs : List Obj) (R : Type) (l : List (Nat × PS)) : TabX R := fun f => match l.lookup f with
  | some S => some fun args h k => chk (goodB objs h) (S R args fun v => k v (logG objs.length h))
  | none => none

theorem lookup_mem' {β : Type 1} : ∀ {l : List (Nat × β)} {k : Nat} {x : β}, l.lookup k = some x → (k, x) ∈ l
  | (a, b) :: l, k, x, h => by
    simp only [List.lookup] at h
    split at h
    · rename_i hk
      have : k = a := by simpa using hk
      cases h; subst this; exact List.mem_cons_self ..
    · exact List.mem_cons_of_mem _ (lookup_mem' h)

theorem tabOf_ok {Q : AProg} {objs : List Obj} {R : Type} {l : List (Nat × PS)} (h : ∀ p ∈ l, PS.Ok Q objs p.1 p.2) : TabOk Q (tabOf objs R l) := by
  intro f F hF args hp k r E
  unfold tabOf at hF
  split at hF
  · rename_i S hS
    cases hF
    obtain ⟨hg, E⟩ := chk_some E
    obtain ⟨h1, h2⟩ := h _ (lookup_mem' hS)
    simp only at h1 h2
    rw [h1 R args] at E
    cases hv : S AV args some with
    | none => rw [hv] at E; cases E
    | some v =>
      rw [hv] at E
      exact ⟨v, _, h2 args v hv hp hg, E⟩
  · cases hF

/-- a function's answer, from one evaluation -/
theorem PS.of_eval {Q : AProg} {objs : List Obj} (hG : Q.G = objs.length) (ho : (objs.all fun o => (objKey o).isSome) = true) {l : List (Nat × PS)} (hl : ∀ p ∈ l, PS.Ok Q objs p.1 p.2)
    {lt : Nat → LtX (AV × Heap)} (hlt : LtabOk Q lt) {m D n f : Nat} {S : PS} (hS : PS.Nice S) (hf : (Q.isCode f && !Q.keep f) = true)
    (hargs : ∀ args v, S AV args some = some v → nfL Q.G 0 args = true ∧
      ∃ hh : AV → Heap, callX Q (tabOf objs (AV × Heap) l) lt m D n (.fn f) args (H0 objs) (fun v h => some (v, h)) = S (AV × Heap) args fun v => some (v, hh v)) : PS.Ok Q objs f S := by
  refine ⟨hS, fun args v hv => ?_⟩
  obtain ⟨h1, hh, h2⟩ := hargs args v hv
  rw [hS, hv] at h2
  obtain ⟨v', h', h3, h4⟩ := callX_ok (tabOf_ok hl) hlt n _ _ _ _ _ h2
  cases h4
  exact lift_ground hG ho (by rw [h1]; simp only [Bool.and_true]; exact hf) h3

theorem cond_bind {α β : Type} (b : Bool) (x y : Option α) (k : α → Option β) : (cond b x y).bind k = cond b (x.bind k) (y.bind k) := by cases b <;> rfl
theorem ltNone {Q : AProg} {R : Type} : LtabOk (R := R) Q (fun _ _ => none) := fun _ _ _ body _ => LtOk.none body
end Am
end
