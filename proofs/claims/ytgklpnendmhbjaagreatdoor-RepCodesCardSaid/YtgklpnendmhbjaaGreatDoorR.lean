/- RepCodes, in the abstract machine. -/
import Derived.Test.YtgklpnendmhbjaaGreatDoorS
set_option linter.unusedSimpArgs false
set_option linter.unusedVariables false
set_option linter.unusedSectionVars false
set_option linter.unnecessarySimpa false
open Go Am
set_option maxRecDepth 100000
set_option maxHeartbeats 1000000
namespace AmA
def S9 : PS := fun _ args k => match args with
  | [] => k (.bool true)
  | _ => none
theorem ev9 : EV [] 9 [] = kL (.bool true) := by kernel_rfl
theorem ok9 : PS.Ok QX objsL 9 S9 := okOf nil_ok (by intro R args k; unfold S9; split <;> rfl) (by kernel_rfl) fun args v hv => by
  unfold S9 at hv
  split at hv
  · exact ⟨rfl, ev9⟩
  · cases hv

def isResp (op : Int) : Bool := op == 24 || (op == 1 || (op == 5 || (op == 7 || (op == 9 || (op == 11 || (op == 13 || (op == 15 || (op == 4 || (op == 19 || op == 25)))))))))
def shp (r v o e f : Bool) (a b : Int) (ok : Bool) : AV := .tup [.agg [.bool r, .bool v, .bool o, .bool e, .bool f, .int .i64 a, .int .i64 b], .bool ok]
def S46 : PS := fun _ args k => match args with
  | [.int .i64 op] => chk (!isResp op) (k (shp false false false false false 0 0 false))
  | _ => none
theorem ev46 (op : Int) : EV [] 46 [.int .i64 op] = cond (op == 24) (kL (shp true true true false false 138 139 true)) (cond (op == 1) (kL (shp true true false false false 0 135 true)) (cond (op == 5) (kL (shp true false false false false 0 0 true))
    (cond (op == 7) (kL (shp true false false false false 0 0 true)) (cond (op == 9) (kL (shp true false false false false 0 0 true)) (cond (op == 11) (kL (shp true false false false false 0 0 true)) (cond (op == 13) (kL (shp true false false false false 0 0 true))
    (cond (op == 15) (kL (shp true false false false false 0 0 true)) (cond (op == 4) (kL (shp false false false true false 0 0 true)) (cond (op == 19) (kL (shp false false false false true 0 0 true)) (cond (op == 25) (kL (shp false true true false false 128 129 true))
    (kL (shp false false false false false 0 0 false)))))))))))) := by kernel_rfl
theorem ok46 : PS.Ok QX objsL 46 S46 := by
  have hS : PS.Nice S46 := by
    intro R args k
    unfold S46
    split
    · simp only [chk, cond_bind, Option.bind_some, Option.bind_none]
    · rfl
  refine ⟨hS, fun args v hv => ?_⟩
  unfold S46 at hv
  split at hv
  · rename_i op
    obtain ⟨h1, hv⟩ := chk_some hv
    have h2 := ev46 op
    simp only [isResp, Bool.not_eq_true', Bool.or_eq_false_iff] at h1
    obtain ⟨a1, a2, a3, a4, a5, a6, a7, a8, a9, a10, a11⟩ := h1
    rw [a1, a2, a3, a4, a5, a6, a7, a8, a9, a10, a11] at h2
    cases hv
    obtain ⟨v', h', h3, h4⟩ := callX_ok (tabOf_ok nil_ok) ltNone 60 _ _ _ _ _ h2
    cases h4
    exact lift_ground gIs keysOk (by kernel_rfl) h3
  · cases hv

def lT : List (Nat × PS) := [(9, S9), (123, S123t), (125, S125), (132, S132)]
def lF : List (Nat × PS) := [(9, S9), (123, S123f)]
def lN : List (Nat × PS) := [(9, S9), (46, S46)]
theorem lT_ok : ∀ p ∈ lT, PS.Ok QX objsL p.1 p.2 := cons_ok ok9 (cons_ok ok123t (cons_ok ok125 (cons_ok ok132 nil_ok)))
theorem lF_ok : ∀ p ∈ lF, PS.Ok QX objsL p.1 p.2 := cons_ok ok9 (cons_ok ok123f nil_ok)
theorem lN_ok : ∀ p ∈ lN, PS.Ok QX objsL p.1 p.2 := cons_ok ok9 (cons_ok ok46 nil_ok)

abbrev kB (b : Bool) : Option (AV × Heap) := kL (.bool b)
def fin2 (ok : Bool) (c : Int) (val : Bool) : Option (AV × Heap) :=
  cond (decide (c ≥ 0)) (cond (decide (c ≤ 200)) (cond ((ok == (c != 10)) != false) (cond (!(c != 10)) (kB true) (kB val)) (kB false)) (kB (!ok))) (kB (!ok))
def fin (ok : Bool) (c : Int) (val : Bool) : Option (AV × Heap) := cond (c == 0) (fin2 ok c val) (fin2 ok c val)
def tP (c : Int) : Option (AV × Heap) := chk (okR c) (chk (okR c) (chk (okRR (encA c)) (chk (okR (decA (encA c))) (chk (okR (decA (encA c)))
  (cond (encA (decA (encA c)) == encA c) (fin true c (decA (encA c) == c)) (fin true c false))))))
def tE (c : Int) (x : Option (AV × Heap)) : Option (AV × Heap) := cond ((true == (c != 0)) != false) (cond (c == 0) (kB true) (kB true)) x
abbrev ev4 (l : List (Nat × PS)) (c op : Int) : Option (AV × Heap) := EV l 4 [.int .i64 c, .int .i64 op]
theorem p1 (c : Int) : ev4 lT c 1 = tP c := by kernel_rfl
theorem q1 (c : Int) : ev4 lF c 1 = chk (!okR c) (fin false c false) := by kernel_rfl
theorem p5 (c : Int) : ev4 lT c 5 = tP c := by kernel_rfl
theorem q5 (c : Int) : ev4 lF c 5 = chk (!okR c) (fin false c false) := by kernel_rfl
theorem e4 (c : Int) : ev4 lT c 4 = tE c (chk (okR c) (chk (okR c) (cond (c == 0) (kB true) (kB false)))) := by kernel_rfl
theorem f4 (c : Int) : ev4 lF c 4 = tE c (chk (!okR c) (cond (c == 0) (kB true) (kB true))) := by kernel_rfl
theorem e25 (c : Int) : ev4 lT c 25 = tE c (chk (okR c) (chk (okR c) (cond (c == 0) (kB true) (kB false)))) := by kernel_rfl
theorem f25 (c : Int) : ev4 lF c 25 = tE c (chk (!okR c) (cond (c == 0) (kB true) (kB true))) := by kernel_rfl
theorem e19 (c : Int) : ev4 lT c 19 = tE c (chk (okR c) (cond (c == 0) (kB true) (kB true))) := by kernel_rfl
theorem f19 (c : Int) : ev4 lF c 19 = tE c (chk (!okR c) (cond (c == 0) (kB true) (kB true))) := by kernel_rfl
theorem n4 (c op : Int) : ev4 lN c op = chk (!isResp op) (chk (!isResp op) (cond (c == 0) (cond (op != 19) (kB true) (kB true)) (kB true))) := by kernel_rfl
end AmA
