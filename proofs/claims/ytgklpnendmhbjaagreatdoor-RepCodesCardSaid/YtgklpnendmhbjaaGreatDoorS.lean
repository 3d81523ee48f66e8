/- Numbers as bytes: what prim's functions answer. -/
import Derived.Test.YtgklpnendmhbjaaGreatDoorJ
import Derived.Test.YtgklpnendmhbjaaGreatDoorA7
import Derived.KernelRfl
set_option linter.unusedSimpArgs false
set_option linter.unusedVariables false
set_option linter.unusedSectionVars false
set_option linter.unnecessarySimpa false
section
open Go Am
set_option maxRecDepth 100000
set_option maxHeartbeats 1000000
namespace AmA
abbrev HS : Heap := H0 objsL
abbrev kO : KV (AV × Heap) := fun v h => some (v, h)
abbrev EV (l : List (Nat × PS)) (f : Nat) (args : List AV) : Option (AV × Heap) := callX QX (tabOf objsL (AV × Heap) l) (fun _ _ => none) 1000 1000 60 (.fn f) args HS kO
abbrev kL : AV → Option (AV × Heap) := fun v => some (v, logG 21 HS)
abbrev EB (S : PS) (args : List AV) : Option (AV × Heap) := S (AV × Heap) args kL
theorem keysOk : (objsL.all fun o => (objKey o).isSome) = true := by kernel_rfl
theorem gIs : QX.G = objsL.length := by kernel_rfl
theorem okOf {l : List (Nat × PS)} (hl : ∀ p ∈ l, PS.Ok QX objsL p.1 p.2) {f : Nat} {S : PS} (hS : PS.Nice S) (hf : (QX.isCode f && !QX.keep f) = true)
    (hargs : ∀ args v, S AV args some = some v → nfL QX.G 0 args = true ∧ EV l f args = EB S args) : PS.Ok QX objsL f S :=
  PS.of_eval gIs keysOk hl ltNone hS hf fun args v hv => ⟨(hargs args v hv).1, fun _ => logG 21 HS, (hargs args v hv).2⟩
theorem nil_ok : ∀ p ∈ ([] : List (Nat × PS)), PS.Ok QX objsL p.1 p.2 := fun p hp => by cases hp
theorem cons_ok {f : Nat} {S : PS} {l : List (Nat × PS)} (h : PS.Ok QX objsL f S) (hl : ∀ p ∈ l, PS.Ok QX objsL p.1 p.2) : ∀ p ∈ (f, S) :: l, PS.Ok QX objsL p.1 p.2 := fun p hp => by
  rcases List.mem_cons.1 hp with rfl | hp
  · exact h
  · exact hl p hp

def inR (lo hi n : Int) : Bool := decide (n ≥ lo) && decide (n < hi)
def fits {R : Type} (lo hi n : Int) (a b : Option R) : Option R := cond (decide (n ≥ lo)) (cond (decide (n < hi)) a b) b
theorem fits_eq {R : Type} (lo hi n : Int) (a b : Option R) : fits lo hi n a b = cond (inR lo hi n) a b := by
  unfold fits inR
  cases decide (n ≥ lo) <;> cases decide (n < hi) <;> rfl
abbrev in1 (n : Int) : Bool := inR (-128) 128 n
abbrev in2 (n : Int) : Bool := inR (-32768) 32768 n
abbrev in3 (n : Int) : Bool := inR (-8388608) 8388608 n
abbrev in4 (n : Int) : Bool := inR (-2147483648) 2147483648 n

/-! ### prim.least -/
def wid (i n : Int) : AV := .tup [.agg [.int .i64 i, .int .i64 n], .nilIface]
def errNum (s : List UInt8) : AV := .iface 345 (.agg [.str s, .iface 428 (.sent 13)])
def noWid : AV := .tup [.agg [.int .i64 0, .int .i64 0], errNum []]
def S239 : PS := fun _ args k => match args with
  | [.int .i64 n] => cond (in1 n) (k (wid 1 n)) (cond (in2 n) (k (wid 2 n)) (cond (in3 n) (k (wid 3 n)) (cond (in4 n) (k (wid 4 n)) (k noWid))))
  | _ => none
theorem nice239 : PS.Nice S239 := by
  intro R args k
  unfold S239
  split
  · simp only [cond_bind, Option.bind_some]
  · rfl
theorem ev239 (n : Int) : EV [] 239 [.int .i64 n] = fits (-128) 128 n (kL (wid 1 n)) (fits (-32768) 32768 n (kL (wid 2 n)) (fits (-8388608) 8388608 n (kL (wid 3 n)) (fits (-2147483648) 2147483648 n (kL (wid 4 n)) (kL noWid)))) := by kernel_rfl
theorem ok239 : PS.Ok QX objsL 239 S239 := okOf nil_ok nice239 (by kernel_rfl) fun args v hv => by
  unfold S239 at hv
  split at hv
  · refine ⟨rfl, (ev239 _).trans ?_⟩
    simp only [fits_eq]; rfl
  · cases hv

/-! ### prim.Int -/
def byA (n d : Int) : AV := .int .u8 (IntKind.u8.wrap (n.fdiv d))
def encL (l : List AV) : List UInt8 := l.map byteD
def encA (n : Int) : List UInt8 :=
  cond (in1 n) (encL [byA n 1]) (cond (in2 n) (encL [byA n 256, byA n 1]) (cond (in3 n) (encL [byA n 65536, byA n 256, byA n 1]) (cond (in4 n) (encL [byA n 16777216, byA n 65536, byA n 256, byA n 1]) [])))
def encE (n : Int) : Int := cond (in4 n) 0 30
theorem isByte_byA (n d : Int) : isByteA (byA n d) = true := by
  unfold isByteA unbyte byA
  have h := IntKind.u8.wrap (n.fdiv d)
  have : 0 ≤ IntKind.u8.wrap (n.fdiv d) ∧ IntKind.u8.wrap (n.fdiv d) < 256 := by
    unfold IntKind.wrap
    simp only [IntKind.signed, IntKind.bits, Bool.false_and, Bool.false_eq_true, if_false]
    omega
  simp [this]
def S188 : PS := fun _ args k => match args with
  | [.int .i64 n] => k (.tup [.str (encA n), .int .i64 (encE n)])
  | _ => none
theorem nice188 : PS.Nice S188 := by
  intro R args k
  unfold S188
  split <;> rfl
def leaf188 (l : List AV) : Option (AV × Heap) := chk (l.all isByteA) (kL (.tup [.str (l.map byteD), .int .i64 0]))
def l239 : List (Nat × PS) := [(239, S239)]
theorem ev188 (n : Int) : EV l239 188 [.int .i64 n] = cond (in1 n) (leaf188 [byA n 1]) (cond (in2 n) (leaf188 [byA n 256, byA n 1]) (cond (in3 n) (leaf188 [byA n 65536, byA n 256, byA n 1])
    (cond (in4 n) (leaf188 [byA n 16777216, byA n 65536, byA n 256, byA n 1]) (kL (.tup [.str [], .int .i64 30]))))) := by kernel_rfl
theorem in12 {n : Int} (h : in1 n = true) : in4 n = true := by simp only [in1, in4, inR, Bool.and_eq_true, decide_eq_true_eq] at h ⊢; omega
theorem in24 {n : Int} (h : in2 n = true) : in4 n = true := by simp only [in2, in4, inR, Bool.and_eq_true, decide_eq_true_eq] at h ⊢; omega
theorem in34 {n : Int} (h : in3 n = true) : in4 n = true := by simp only [in3, in4, inR, Bool.and_eq_true, decide_eq_true_eq] at h ⊢; omega
theorem ok188 : PS.Ok QX objsL 188 S188 := okOf (cons_ok ok239 nil_ok) nice188 (by kernel_rfl) fun args v hv => by
  unfold S188 at hv
  split at hv
  · rename_i n
    refine ⟨rfl, (ev188 n).trans ?_⟩
    show _ = kL (.tup [.str (encA n), .int .i64 (encE n)])
    unfold encA encE leaf188 encL
    cases h1 : in1 n
    · cases h2 : in2 n
      · cases h3 : in3 n
        · cases h4 : in4 n
          · rfl
          · simp only [cond_true, cond_false, List.all_cons, List.all_nil, isByte_byA, Bool.and_self]
        · simp only [cond_true, cond_false, List.all_cons, List.all_nil, isByte_byA, Bool.and_self, in34 h3]
      · simp only [cond_true, cond_false, List.all_cons, List.all_nil, isByte_byA, Bool.and_self, in24 h2]
    · simp only [cond_true, cond_false, List.all_cons, List.all_nil, isByte_byA, Bool.and_self, in12 h1]
  · cases hv

/-! ### prim.ReadInt -/
def or64 (x y : Int) : Int := IntKind.i64.wrap (BitVec.ofInt IntKind.i64.bits x ||| BitVec.ofInt IntKind.i64.bits y).toNat
def hd64 (a : UInt8) : Int := IntKind.i64.wrap (IntKind.i8.wrap a.toNat)
def sh64 (x : Int) (b : UInt8) : Int := or64 (IntKind.i64.wrap (x * 256)) (IntKind.i64.wrap b.toNat)
def okDec (w : Int → Bool) (n : Int) : AV → AV → AV := fun a b => cond (w n) a b
def rawDec (s : List UInt8) : Int := match s with
  | [a] => hd64 a
  | [a, b] => sh64 (hd64 a) b
  | [a, b, c] => sh64 (sh64 (hd64 a) b) c
  | [a, b, c, d] => sh64 (sh64 (sh64 (hd64 a) b) c) d
  | _ => 0
/-- whether it has no more bytes than it must have -/
def least (s : List UInt8) : Bool := match s with
  | [_] => in1 (rawDec s)
  | [_, _] => !in1 (rawDec s) && in2 (rawDec s)
  | [_, _, _] => !in1 (rawDec s) && !in2 (rawDec s) && in3 (rawDec s)
  | [_, _, _, _] => !in1 (rawDec s) && !in2 (rawDec s) && !in3 (rawDec s) && in4 (rawDec s)
  | _ => false
def S304 : PS := fun _ args k => match args with
  | [.str s] => cond (least s) (k (.tup [.int .i64 (rawDec s), .nilIface])) (k (.tup [.int .i64 0, errNum s]))
  | _ => none
theorem nice304 : PS.Nice S304 := by
  intro R args k
  unfold S304
  split
  · simp only [cond_bind, Option.bind_some]
  · rfl
abbrev good304 (s : List UInt8) : Option (AV × Heap) := kL (.tup [.int .i64 (rawDec s), .nilIface])
abbrev bad304 (s : List UInt8) : Option (AV × Heap) := kL (.tup [.int .i64 0, errNum s])
abbrev t304 (s : List UInt8) (a b c d : Option (AV × Heap)) : Option (AV × Heap) := cond (in1 (rawDec s)) a (cond (in2 (rawDec s)) b (cond (in3 (rawDec s)) c (cond (in4 (rawDec s)) d (bad304 s))))
theorem ev304_0 : EV l239 304 [.str []] = bad304 [] := by kernel_rfl
theorem ev304_1 (a : UInt8) : EV l239 304 [.str [a]] = t304 [a] (good304 [a]) (bad304 [a]) (bad304 [a]) (bad304 [a]) := by kernel_rfl
theorem ev304_2 (a b : UInt8) : EV l239 304 [.str [a, b]] = t304 [a, b] (bad304 [a, b]) (good304 [a, b]) (bad304 [a, b]) (bad304 [a, b]) := by kernel_rfl
theorem ev304_3 (a b c : UInt8) : EV l239 304 [.str [a, b, c]] = t304 [a, b, c] (bad304 [a, b, c]) (bad304 [a, b, c]) (good304 [a, b, c]) (bad304 [a, b, c]) := by kernel_rfl
theorem ev304_4 (a b c d : UInt8) : EV l239 304 [.str [a, b, c, d]] = t304 [a, b, c, d] (bad304 [a, b, c, d]) (bad304 [a, b, c, d]) (bad304 [a, b, c, d]) (good304 [a, b, c, d]) := by kernel_rfl
theorem ev304_5 (a b c d e : UInt8) (l : List UInt8) : EV l239 304 [.str (a :: b :: c :: d :: e :: l)] = bad304 (a :: b :: c :: d :: e :: l) := by kernel_rfl
theorem ok304 : PS.Ok QX objsL 304 S304 := okOf (cons_ok ok239 nil_ok) nice304 (by kernel_rfl) fun args v hv => by
  unfold S304 at hv
  split at hv
  · rename_i s
    refine ⟨rfl, ?_⟩
    show EV l239 304 [.str s] = cond (least s) (good304 s) (bad304 s)
    match s with
    | [] => exact ev304_0
    | [a] => rw [ev304_1]; unfold t304 least; cases in1 (rawDec [a]) <;> cases in2 (rawDec [a]) <;> cases in3 (rawDec [a]) <;> cases in4 (rawDec [a]) <;> rfl
    | [a, b] => rw [ev304_2]; unfold t304 least; cases in1 (rawDec [a, b]) <;> cases in2 (rawDec [a, b]) <;> cases in3 (rawDec [a, b]) <;> cases in4 (rawDec [a, b]) <;> rfl
    | [a, b, c] => rw [ev304_3]; unfold t304 least; cases in1 (rawDec [a, b, c]) <;> cases in2 (rawDec [a, b, c]) <;> cases in3 (rawDec [a, b, c]) <;> cases in4 (rawDec [a, b, c]) <;> rfl
    | [a, b, c, d] => rw [ev304_4]; unfold t304 least; cases in1 (rawDec [a, b, c, d]) <;> cases in2 (rawDec [a, b, c, d]) <;> cases in3 (rawDec [a, b, c, d]) <;> cases in4 (rawDec [a, b, c, d]) <;> rfl
    | a :: b :: c :: d :: e :: l => exact ev304_5 a b c d e l
  · cases hv
def decE (s : List UInt8) : Int := cond (least s) 0 30
def decA (s : List UInt8) : Int := cond (least s) (rawDec s) 0
def S266 : PS := fun _ args k => match args with
  | [.str s] => k (.tup [.int .i64 (decA s), .int .i64 (decE s)])
  | _ => none
theorem nice266 : PS.Nice S266 := by
  intro R args k
  unfold S266
  split <;> rfl
theorem ev266 (s : List UInt8) : EV [(304, S304)] 266 [.str s] = cond (least s) (kL (.tup [.int .i64 (rawDec s), .int .i64 0])) (kL (.tup [.int .i64 0, .int .i64 30])) := by kernel_rfl
theorem ok266 : PS.Ok QX objsL 266 S266 := okOf (cons_ok ok304 nil_ok) nice266 (by kernel_rfl) fun args v hv => by
  unfold S266 at hv
  split at hv
  · rename_i s
    refine ⟨rfl, (ev266 s).trans ?_⟩
    show _ = kL (.tup [.int .i64 (decA s), .int .i64 (decE s)])
    unfold decA decE
    cases least s <;> rfl
  · cases hv
end AmA
end
section
open Go Am
set_option maxRecDepth 100000
set_option maxHeartbeats 1000000
namespace AmA
def numNode (n : Int) : AV := .agg [.int .i64 10, .str (encA n), .slice [] .ro]
def S125 : PS := fun _ args k => match args with
  | [.int .i64 n] => k (numNode n)
  | _ => none
theorem ev125 (n : Int) : EV [(188, S188)] 125 [.int .i64 n] = kL (numNode n) := by kernel_rfl
theorem ok125 : PS.Ok QX objsL 125 S125 := okOf (cons_ok ok188 nil_ok) (by intro R args k; unfold S125; split <;> rfl) (by kernel_rfl) fun args v hv => by
  unfold S125 at hv
  split at hv
  · exact ⟨rfl, ev125 _⟩
  · cases hv

/-- a permission that names no slot -/
def free : Perm → Bool
  | .tok _ => false
  | _ => true
def okR (n : Int) : Bool := decide (n ≥ 0) && (decide (n ≤ 200) && !(n == 10))
def errRes : AV := .iface 251 (.agg [.str [114, 101, 115, 117, 108, 116]])
/-- a result with a code alone -/
def resA (n : Int) (p : Perm) : AV := .agg [.int .i64 n, .str [], .str [], .slice [] p]
def S123 : PS := fun _ args k => match args with
  | [.agg [.int .i64 n, .str [], .str [], .slice [] p]] => chk (free p) (cond (okR n) (k .nilIface) (k errRes))
  | _ => none
abbrev t123 (n : Int) : Option (AV × Heap) := cond (!decide (n ≥ 0)) (kL errRes) (cond (!decide (n ≤ 200)) (kL errRes) (cond (!(((n == 10) == false) != false)) (kL errRes) (kL .nilIface)))
theorem ev123r (n : Int) : EV [] 123 [resA n .ro] = t123 n := by kernel_rfl
theorem ev123n (n : Int) : EV [] 123 [resA n .nil] = t123 n := by kernel_rfl
theorem ev123f (n : Int) : EV [] 123 [resA n .full] = t123 n := by kernel_rfl
theorem t123_eq (n : Int) : t123 n = cond (okR n) (kL .nilIface) (kL errRes) := by
  unfold t123 okR
  cases decide (n ≥ 0) <;> cases decide (n ≤ 200) <;> cases (n == 10) <;> rfl
theorem ok123 : PS.Ok QX objsL 123 S123 := okOf nil_ok (by
    intro R args k
    unfold S123
    split
    · simp only [chk, cond_bind, Option.bind_some, Option.bind_none]
    · rfl) (by kernel_rfl) fun args v hv => by
  unfold S123 at hv
  split at hv
  · rename_i n p
    cases p with
    | ro => exact ⟨rfl, (ev123r n).trans (t123_eq n)⟩
    | nil => exact ⟨rfl, (ev123n n).trans (t123_eq n)⟩
    | full => exact ⟨rfl, (ev123f n).trans (t123_eq n)⟩
    | tok t => cases hv
  · cases hv

/-- the same, where the result is right, and where it is not -/
def S123t : PS := fun _ args k => match args with
  | [.agg [.int .i64 n, .str [], .str [], .slice [] p]] => chk (free p) (chk (okR n) (k .nilIface))
  | _ => none
def S123f : PS := fun _ args k => match args with
  | [.agg [.int .i64 n, .str [], .str [], .slice [] p]] => chk (free p) (chk (!okR n) (k errRes))
  | _ => none
theorem PS.Ok.weak {f : Nat} {S S' : PS} (h : PS.Ok QX objsL f S) (hS : PS.Nice S') (hw : ∀ args v, S' AV args some = some v → S AV args some = some v) : PS.Ok QX objsL f S' :=
  ⟨hS, fun args v hv => h.2 args v (hw args v hv)⟩
theorem ok123t : PS.Ok QX objsL 123 S123t := PS.Ok.weak ok123 (by
    intro R args k
    unfold S123t
    split
    · simp only [chk, cond_bind, Option.bind_some, Option.bind_none]
    · rfl) fun args v hv => by
  unfold S123t at hv
  split at hv
  · rename_i n p
    obtain ⟨h1, hv⟩ := chk_some hv
    obtain ⟨h2, hv⟩ := chk_some hv
    show chk (free p) (cond (okR n) (some AV.nilIface) (some errRes)) = some v
    rw [h1, h2]; exact hv
  · cases hv
theorem ok123f : PS.Ok QX objsL 123 S123f := PS.Ok.weak ok123 (by
    intro R args k
    unfold S123f
    split
    · simp only [chk, cond_bind, Option.bind_some, Option.bind_none]
    · rfl) fun args v hv => by
  unfold S123f at hv
  split at hv
  · rename_i n p
    obtain ⟨h1, hv⟩ := chk_some hv
    obtain ⟨h2, hv⟩ := chk_some hv
    have h2 : okR n = false := by simpa using h2
    show chk (free p) (cond (okR n) (some AV.nilIface) (some errRes)) = some v
    rw [h1, h2]; exact hv
  · cases hv

def okRR (s : List UInt8) : Bool := !(decE s != 0) && (okR (decA s) && (encA (decA s) == s))
def txt0 : AV := .agg [.int .i64 4, .str [], .slice [] .ro]
def badRes : AV := .tup [resA 0 .ro, .int .i64 100]
def S132 : PS := fun _ args k => match args with
  | [.slice [.agg [.int .i64 10, .str s, .slice [] .ro], .agg [.int .i64 4, .str [], .slice [] .ro], .agg [.int .i64 4, .str [], .slice [] .ro]] .ro] => chk (okRR s) (k (.tup [resA (decA s) .ro, .int .i64 0]))
  | _ => none
theorem ev132 (s : List UInt8) : EV [(123, S123), (125, S125), (266, S266)] 132 [.slice [.agg [.int .i64 10, .str s, .slice [] .ro], txt0, txt0] .ro] =
    cond (decE s != 0) (kL badRes) (cond (okR (decA s)) (cond (encA (decA s) == s) (kL (.tup [resA (decA s) .ro, .int .i64 0])) (kL badRes)) (kL badRes)) := by kernel_rfl
theorem ok132 : PS.Ok QX objsL 132 S132 := by
  have hS : PS.Nice S132 := by
    intro R args k
    unfold S132
    split
    · simp only [chk, cond_bind, Option.bind_some, Option.bind_none]
    · rfl
  refine ⟨hS, fun args v hv => ?_⟩
  unfold S132 at hv
  split at hv
  · rename_i s
    obtain ⟨h1, hv⟩ := chk_some hv
    have h2 := ev132 s
    simp only [okRR, Bool.and_eq_true, Bool.not_eq_true'] at h1
    obtain ⟨a, b, c⟩ := h1
    rw [a, b, c] at h2
    cases hv
    obtain ⟨v', h', h3, h4⟩ := callX_ok (tabOf_ok (cons_ok ok123 (cons_ok ok125 (cons_ok ok266 nil_ok)))) ltNone 60 _ _ _ _ _ h2
    cases h4
    exact lift_ground gIs keysOk (by kernel_rfl) h3
  · cases hv
end AmA
end
