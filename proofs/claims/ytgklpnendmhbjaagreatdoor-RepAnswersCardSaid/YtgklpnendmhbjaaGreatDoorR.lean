/- RepAnswers, in the abstract machine. -/
import Derived.Test.YtgklpnendmhbjaaGreatDoorJ
import Derived.Test.YtgklpnendmhbjaaGreatDoorA6
set_option linter.unusedSimpArgs false
set_option linter.unusedVariables false
set_option linter.unusedSectionVars false
set_option linter.unnecessarySimpa false
open Go Am AmA
set_option maxRecDepth 100000
set_option maxHeartbeats 1000000
namespace AmA
def body7 : ACode := match c7 with | .code _ _ b => b | _ => .bad
def A7 : ACode := match body7 with | .seq a _ => a | _ => .bad
def B7 : ACode := match body7 with | .seq _ (.seq b _) => b | _ => .bad
def R7 : ACode := match body7 with | .seq _ (.seq _ r) => r | _ => .bad
def HG : Heap := enterH (ground 21 (H0 objsL))
def sA (a b : Int) : St := ⟨[.int .i64 a, .int .i64 b, .junk, .junk, .bool false], [], HG⟩
def s1 (a b : Int) : St := ⟨[.int .i64 a, .int .i64 b, .junk, .junk, .bool false, .bool true, .junk, .junk, .bool true], [], logG 21 HG⟩
def okR (r : Option (Ex × St)) : Bool := match r with | some (.ret, s) => (match s.env.get 4 with | .bool b => b | _ => false) && s.h.w.isEmpty && s.ds.isEmpty | _ => false
def rest (a b : Int) : Bool := okR (evalC QX (callN QX 300) (iterN 300) none R7 (s1 a b))
def row (i : Nat) : Bool := (List.range 24).all fun j => rest (Int.ofNat i) (Int.ofNat j)
theorem r0 : row 0 = true := by kernel_rfl
theorem r1 : row 1 = true := by kernel_rfl
theorem r2 : row 2 = true := by kernel_rfl
theorem r3 : row 3 = true := by kernel_rfl
theorem r4 : row 4 = true := by kernel_rfl
theorem r5 : row 5 = true := by kernel_rfl
theorem r6 : row 6 = true := by kernel_rfl
theorem r7 : row 7 = true := by kernel_rfl
theorem r8 : row 8 = true := by kernel_rfl
theorem r9 : row 9 = true := by kernel_rfl
theorem r10 : row 10 = true := by kernel_rfl
theorem r11 : row 11 = true := by kernel_rfl
theorem r12 : row 12 = true := by kernel_rfl
theorem r13 : row 13 = true := by kernel_rfl
theorem r14 : row 14 = true := by kernel_rfl
theorem r15 : row 15 = true := by kernel_rfl
theorem r16 : row 16 = true := by kernel_rfl
theorem r17 : row 17 = true := by kernel_rfl
theorem r18 : row 18 = true := by kernel_rfl
theorem r19 : row 19 = true := by kernel_rfl
theorem r20 : row 20 = true := by kernel_rfl
theorem r21 : row 21 = true := by kernel_rfl
theorem r22 : row 22 = true := by kernel_rfl
theorem r23 : row 23 = true := by kernel_rfl
theorem t1 : ∀ i, i < 24 → row i = true
  | 0, _ => r0
  | 1, _ => r1
  | 2, _ => r2
  | 3, _ => r3
  | 4, _ => r4
  | 5, _ => r5
  | 6, _ => r6
  | 7, _ => r7
  | 8, _ => r8
  | 9, _ => r9
  | 10, _ => r10
  | 11, _ => r11
  | 12, _ => r12
  | 13, _ => r13
  | 14, _ => r14
  | 15, _ => r15
  | 16, _ => r16
  | 17, _ => r17
  | 18, _ => r18
  | 19, _ => r19
  | 20, _ => r20
  | 21, _ => r21
  | 22, _ => r22
  | 23, _ => r23
  | n + 24, h => absurd h (by omega)
theorem t2 (m : Nat) : ((List.range 24).all fun i => rest (Int.ofNat i) (Int.ofNat (m + 24)) && rest (Int.ofNat i) (Int.negSucc m)) = true := by kernel_rfl
theorem t3 (n : Nat) : ((List.range 24).all fun j => rest (Int.ofNat (n + 24)) (Int.ofNat j) && rest (Int.negSucc n) (Int.ofNat j)) = true := by kernel_rfl
theorem t4 (n m : Nat) : (rest (Int.ofNat (n + 24)) (Int.ofNat (m + 24)) && rest (Int.ofNat (n + 24)) (Int.negSucc m) && rest (Int.negSucc n) (Int.ofNat (m + 24)) && rest (Int.negSucc n) (Int.negSucc m)) = true := by kernel_rfl
theorem rest_ok (a b : Int) : rest a b = true := by
  have hn : ∀ i : Nat, i < 24 ∨ ∃ m, i = m + 24 := fun i => by
    rcases Nat.lt_or_ge i 24 with h | h
    · exact .inl h
    · exact .inr ⟨i - 24, by omega⟩
  cases a with
  | ofNat i =>
    rcases hn i with hi | ⟨n, rfl⟩
    · cases b with
      | ofNat j =>
        rcases hn j with hj | ⟨m, rfl⟩
        · exact List.all_eq_true.1 (t1 i hi) j (List.mem_range.2 hj)
        · exact ((Bool.and_eq_true _ _).mp (List.all_eq_true.1 (t2 m) i (List.mem_range.2 hi))).1
      | negSucc m => exact ((Bool.and_eq_true _ _).mp (List.all_eq_true.1 (t2 m) i (List.mem_range.2 hi))).2
    · cases b with
      | ofNat j =>
        rcases hn j with hj | ⟨m, rfl⟩
        · exact ((Bool.and_eq_true _ _).mp (List.all_eq_true.1 (t3 n) j (List.mem_range.2 hj))).1
        · have := t4 n m; simp only [Bool.and_eq_true] at this; exact this.1.1.1
      | negSucc m => have := t4 n m; simp only [Bool.and_eq_true] at this; exact this.1.1.2
  | negSucc n =>
    cases b with
    | ofNat j =>
      rcases hn j with hj | ⟨m, rfl⟩
      · exact ((Bool.and_eq_true _ _).mp (List.all_eq_true.1 (t3 n) j (List.mem_range.2 hj))).2
      · have := t4 n m; simp only [Bool.and_eq_true] at this; exact this.1.2
    | negSucc m => have := t4 n m; simp only [Bool.and_eq_true] at this; exact this.2
theorem stA (a b : Int) : evalC QX (callN QX 300) (iterN 300) none A7 ⟨[.int .i64 a, .int .i64 b], [], HG⟩ = some (.norm, sA a b) := by kernel_rfl
theorem stB (a b : Int) : evalC QX (callN QX 300) (iterN 300) none B7 (sA a b) = some (.norm, s1 a b) := by kernel_rfl
theorem codes7 : QX.codes 7 = some (.code 62 [.tmp 4] (.seq A7 (.seq B7 R7))) := by kernel_rfl
theorem okR_inv {r : Option (Ex × St)} (h : okR r = true) : ∃ s, r = some (.ret, s) ∧ s.env.get 4 = .bool true ∧ s.h.w = [] ∧ s.ds = [] := by
  unfold okR at h
  split at h
  · rename_i s
    simp only [Bool.and_eq_true, List.isEmpty_iff] at h
    obtain ⟨⟨h1, h2⟩, h3⟩ := h
    refine ⟨s, rfl, ?_, h2, h3⟩
    split at h1
    · rename_i b hb; rw [hb, h1]
    · cases h1
  · cases h
theorem answersAM (a b : Int) : callN QX 301 (.fn 7) [.int .i64 a, .int .i64 b] (H0 objsL) = some (.bool true, logG 21 (H0 objsL)) := by
  obtain ⟨s, hs, h4, h2, h3⟩ := okR_inv (rest_ok a b)
  exact call_code codes7 (by kernel_rfl) (Nat.le_of_ble_eq_true rfl) rfl (by kernel_rfl) (s := s) ((evalC_seq (stA a b)).trans ((evalC_seq (stB a b)).trans hs)) h3 h2 h4 rfl rfl
end AmA
