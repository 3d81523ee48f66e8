/- RepCodes, in the abstract machine: for all numbers. -/
import Derived.Test.YtgklpnendmhbjaaGreatDoorR2
import Derived.Test.YtgklpnendmhbjaaGreatDoorR3
import Derived.Test.YtgklpnendmhbjaaGreatDoorCards
import Derived.Test.YtgklpnendmhbjaaGreatDoorTie
import Derived.WalkKit
import Derived.ProofKit
import Derived.OpenShut
import Derived.Deep.DeepHandedRow
import Derived.Test.YtgklpnendmhbjaaGreatDoorA6
import Derived.LaidHandle
import Derived.Deep.DeepWitnessRowRef
import Derived.KernelRfl
set_option linter.unusedSimpArgs false
set_option linter.unusedVariables false
set_option linter.unusedSectionVars false
set_option linter.unnecessarySimpa false
section
open Go Am
set_option maxRecDepth 100000
namespace AmA
theorem round200 : ((List.range 201).all fun n => !okR (Int.ofNat n) || (okRR (encA (Int.ofNat n)) && decA (encA (Int.ofNat n)) == Int.ofNat n)) = true := by kernel_rfl
theorem round_ok {c : Int} (h : okR c = true) : okRR (encA c) = true ∧ decA (encA c) = c := by
  have h0 := h
  simp only [okR, Bool.and_eq_true, decide_eq_true_eq] at h0
  obtain ⟨n, rfl⟩ : ∃ n : Nat, c = Int.ofNat n := ⟨c.toNat, by have := h0.1; show c = (c.toNat : Int); omega⟩
  have hn : n < 201 := by have := h0.2.1; have h2 : ((n : Nat) : Int) ≤ 200 := this; omega
  have := List.all_eq_true.1 round200 n (List.mem_range.2 hn)
  rw [h] at this
  simpa using this
theorem tP_ok {c : Int} (h : okR c = true) : tP c = kB true := by
  obtain ⟨h1, h2⟩ := round_ok h
  have h0 := h
  simp only [okR, Bool.and_eq_true, decide_eq_true_eq, Bool.not_eq_true', beq_eq_false_iff_ne] at h0
  obtain ⟨a, b, d⟩ := h0
  have e1 : (encA (decA (encA c)) == encA c) = true := by rw [h2]; exact beq_self_eq_true _
  have e2 : (decA (encA c) == c) = true := by rw [h2]; exact beq_self_eq_true _
  have e3 : decide (c ≥ 0) = true := decide_eq_true a
  have e4 : decide (c ≤ 200) = true := decide_eq_true b
  have e5 : (c != 10) = true := by simpa using d
  unfold tP fin fin2
  rw [h1, e1, e2, h2, h, e3, e4, e5]
  cases (c == 0) <;> rfl
theorem fin_ok {c : Int} (h : okR c = false) : chk (!okR c) (fin false c false) = kB true := by
  rw [h]
  unfold fin fin2
  simp only [okR, Bool.and_eq_false_iff] at h
  cases ha : decide (c ≥ 0) <;> cases hb : decide (c ≤ 200) <;> cases (c == 0) <;> try rfl
  all_goals
    rw [ha, hb] at h
    have e5 : (c != 10) = false := by simpa using h
    rw [e5]; rfl
theorem tE_ok {c : Int} {x : Option (AV × Heap)} (hx : c = 0 → x = kB true) : tE c x = kB true := by
  unfold tE
  by_cases h : c = 0
  · rw [hx h]; subst h; rfl
  · have e : (c != 0) = true := by simpa using h
    rw [e]
    cases (c == 0) <;> rfl
theorem codes_lim (c op : Int) : ∃ h', LimC QX (.fn 4) [.int .i64 c, .int .i64 op] HS (.bool true) h' ∧ h'.w = [] := by
  have fin' : ∀ l : List (Nat × PS), (∀ p ∈ l, PS.Ok QX objsL p.1 p.2) → ev4 l c op = kB true → ∃ h', LimC QX (.fn 4) [.int .i64 c, .int .i64 op] HS (.bool true) h' ∧ h'.w = [] := by
    intro l hl e
    obtain ⟨v', h', h3, h4⟩ := callX_ok (tabOf_ok hl) ltNone 60 _ _ _ _ _ e
    cases h4
    exact ⟨_, h3, rfl⟩
  by_cases hr : isResp op = true
  · have h0 := hr
    simp only [isResp, Bool.or_eq_true, beq_iff_eq] at h0
    have hz : okR 0 = true := by kernel_rfl
    cases hc : okR c
    · have P : ∀ o, op = o → ev4 lF c o = chk (!okR c) (fin false c false) → ∃ h', LimC QX (.fn 4) [.int .i64 c, .int .i64 op] HS (.bool true) h' ∧ h'.w = [] := fun o ho e => by
        subst ho; exact fin' lF lF_ok (e.trans (fin_ok hc))
      have nz : c = 0 → False := fun e => by subst e; rw [hz] at hc; cases hc
      rcases h0 with h | h | h | h | h | h | h | h | h | h | h
      · exact P 24 h (q24 c)
      · exact P 1 h (q1 c)
      · exact P 5 h (q5 c)
      · exact P 7 h (q7 c)
      · exact P 9 h (q9 c)
      · exact P 11 h (q11 c)
      · exact P 13 h (q13 c)
      · exact P 15 h (q15 c)
      · subst h; exact fin' lF lF_ok ((f4 c).trans (tE_ok fun e => (nz e).elim))
      · subst h; exact fin' lF lF_ok ((f19 c).trans (tE_ok fun e => (nz e).elim))
      · subst h; exact fin' lF lF_ok ((f25 c).trans (tE_ok fun e => (nz e).elim))
    · have P : ∀ o, op = o → ev4 lT c o = tP c → ∃ h', LimC QX (.fn 4) [.int .i64 c, .int .i64 op] HS (.bool true) h' ∧ h'.w = [] := fun o ho e => by
        subst ho; exact fin' lT lT_ok (e.trans (tP_ok hc))
      rcases h0 with h | h | h | h | h | h | h | h | h | h | h
      · exact P 24 h (p24 c)
      · exact P 1 h (p1 c)
      · exact P 5 h (p5 c)
      · exact P 7 h (p7 c)
      · exact P 9 h (p9 c)
      · exact P 11 h (p11 c)
      · exact P 13 h (p13 c)
      · exact P 15 h (p15 c)
      · subst h; exact fin' lT lT_ok ((e4 c).trans (tE_ok fun e => by subst e; rfl))
      · subst h; exact fin' lT lT_ok ((e19 c).trans (tE_ok fun e => by subst e; rfl))
      · subst h; exact fin' lT lT_ok ((e25 c).trans (tE_ok fun e => by subst e; rfl))
  · have hr : isResp op = false := by simpa using hr
    refine fin' lN lN_ok ((n4 c op).trans ?_)
    rw [hr]
    cases (c == 0) <;> cases (op != 19) <;> rfl
end AmA
end
section
set_option maxRecDepth 100000
namespace Go.Proofs.YtgklpnendmhbjaaGreatDoor.fnCodes
open Go.ChangeShapes Go.WideShapes Go.ChangeAt Go.RowKit Am AmA

noncomputable def low : Nat := (World.holding Tryz.prog default ⟨#[], #[], []⟩).heap.size
noncomputable def modsL : List (Nat × Array Value) := [(0, #[.iface 428 (.pointer (some ⟨low + 0, 0, none⟩))]), (1, #[.iface 428 (.pointer (some ⟨low + 1, 0, none⟩))]), (3, #[.iface 428 (.pointer (some ⟨low + 2, 0, none⟩))]), (4, #[.iface 428 (.pointer (some ⟨low + 3, 0, none⟩))]), (5, #[.iface 428 (.pointer (some ⟨low + 4, 0, none⟩))]), (7, #[.iface 428 (.pointer (some ⟨low + 5, 0, none⟩))]), (8, #[.iface 428 (.pointer (some ⟨low + 6, 0, none⟩))]), (9, #[.iface 428 (.pointer (some ⟨low + 7, 0, none⟩))]), (10, #[.iface 428 (.pointer (some ⟨low + 8, 0, none⟩))]), (11, #[.iface 428 (.pointer (some ⟨low + 9, 0, none⟩))]), (12, #[.iface 428 (.pointer (some ⟨low + 10, 0, none⟩))]), (13, #[.iface 428 (.pointer (some ⟨low + 11, 0, none⟩))]), (18, #[.iface 428 (.pointer (some ⟨low + 12, 0, none⟩))]), (19, #[.iface 428 (.pointer (some ⟨low + 13, 0, none⟩))]), (6, #[.iface 233 (.agg #[typeHandle Tryz.prog 80])]), (16, (firstZ.map fun z => Value.int .u8 z).toArray), (17, (accZ.flatMap fun z => [Value.int .u8 z.1, Value.int .u8 z.2]).toArray)]
noncomputable def laidWorld (os : Os) : World :=
  let w0 := World.holding Tryz.prog os ⟨#[.cells #[.string ⟨#[110, 111, 32, 116, 114, 101, 101]⟩] 446, .cells #[.string ⟨#[110, 111, 32, 114, 101, 115, 112, 111, 110, 115, 101]⟩] 446, .cells #[.string ⟨#[116, 111, 111, 32, 115, 104, 111, 114, 116]⟩] 446, .cells #[.string ⟨#[109, 111, 114, 101, 32, 98, 101, 104, 105, 110, 100, 32, 105, 116]⟩] 446, .cells #[.string ⟨#[110, 111, 32, 116, 97, 103]⟩] 446, .cells #[.string ⟨#[110, 111, 32, 112, 97, 114, 116]⟩] 446, .cells #[.string ⟨#[110, 111, 32, 110, 97, 109, 101]⟩] 446, .cells #[.string ⟨#[110, 111, 32, 98, 111, 111, 108, 101, 97, 110]⟩] 446, .cells #[.string ⟨#[116, 111, 111, 32, 103, 114, 101, 97, 116]⟩] 446, .cells #[.string ⟨#[116, 111, 111, 32, 115, 104, 111, 114, 116]⟩] 446, .cells #[.string ⟨#[110, 111, 32, 108, 101, 110, 103, 116, 104]⟩] 446, .cells #[.string ⟨#[110, 111, 32, 110, 117, 109, 98, 101, 114]⟩] 446, .cells #[.string ⟨#[110, 111, 32, 118, 97, 108, 117, 101]⟩] 446, .cells #[.string ⟨#[110, 111, 32, 99, 111, 100, 101]⟩] 446], #[], []⟩
  { w0 with heap := modsL.foldl (fun h m => h.modify m.1 fun | .cells _ t fz => .cells m.2 t fz | o => o) w0.heap }
theorem laid_met (os : Os) : laidMetH Tryz.prog Rows.repCodesRow.laid ((laidWorld os).forCall (fun _ _ => 0) ⟨#[], #[.int .i64 0, .int .i64 0], []⟩).memory :=
  laidMetH_of_parts (laidMet_of_run' 8 (by kernel_rfl) (by kernel_rfl)) (by kernel_rfl)


set_option maxRecDepth 100000 in
theorem contract (H : Type) (enc : TypeId × Value → H) (W : World) (base : Nat) (args : Array Value) (ds gs : List (DataW H)) (before : List MemPlace)
    (hval : ∀ (j : Nat) t v, Tryz.f4.params[j]? = some t → args[j]? = some v → Value.okWide Tryz.prog W .any base t v)
    (hW : DataW.Whole enc Tryz.prog Tryz.f4.params.toList Rows.repCodesSpec.vars false W args.toList ds gs before) (hL : laidMetH Tryz.prog Rows.repCodesRow.laid W) (hS : W.ShapedOpen Tryz.prog) :
    Calls Tryz.prog 4 args W fun e W' => ∃ v, e = .returned v ∧ Rows.repCodesSpec.post enc Tryz.prog Tryz.f4 false true false false W args v W' := by
  have hW' := hW
  obtain ⟨p, q, hA0, hV, rfl, hfz, hnd⟩ := hW
  have hA : DataW.TrodAll enc Tryz.prog W 0 (fun _ => true) true Tryz.f4.params.toList args.toList ds p := hA0
  rw [Tryz.params4] at hA hval
  obtain ⟨v0, vs0, d0, ds0, p0, q0, hargs, rfl, rfl, h0, r0⟩ := trodAll_cons hA
  obtain ⟨v1, vs1, d1, ds1, p1, q1, hargs1, rfl, rfl, h1, r1⟩ := trodAll_cons r0
  obtain ⟨rfl, rfl, rfl⟩ := trodAll_nil r1
  obtain rfl : args = #[v0, v1] := by cases args; simp_all
  obtain ⟨rfl, rfl⟩ := trodVars_none hV
  obtain ⟨a, rfl, rfl, rfl, wa⟩ := open_int Tryz.underlying3 (hval 0 3 v0 rfl rfl) h0
  obtain ⟨b, rfl, rfl, rfl, wb⟩ := open_int Tryz.underlying3 (hval 1 3 v1 rfl rfl) h1
  clear hA0
  simp only [List.append_nil] at hW'
  have s := startE hL hS
  obtain ⟨h', ⟨N, hN⟩, hw⟩ := codes_lim a b
  have hc := start_calls aokX s (n := N) (f := 4) (by kernel_rfl) (by kernel_rfl) (hN (N + 1) (by omega)) hw (cargs := #[.int .i64 a, .int .i64 b]) (LRel.cons .int (LRel.cons .int .nil))
  refine hc.mono fun e W' ⟨c, M', he, hv, _, _, hk, hio⟩ => ?_
  cases hv
  subst he
  exact ⟨_, rfl, post_same (pa := []) (pv := []) hW' (fun _ _ _ => trodAll_cons_mk (shut_bool Tryz.underlying4 _) trodAll_mk0) (fun _ _ => trodAll_cons_mk (shut_int Tryz.underlying3 wa) (trodAll_cons_mk (shut_int Tryz.underlying3 wb) trodAll_mk0)) (fun _ _ => rfl) rfl
    hio.1 hio.2 hk (ok_one (by kernel_rfl) rfl (okWide_bool_mk Tryz.underlying4 _))⟩

theorem own : ownKnob Tryz.prog.godebug = none := by kernel_rfl
theorem reads (os : Os) {H : Type} (enc : TypeId × Value → H) : ∃ places, DataW.whole enc Tryz.prog ((laidWorld os).forCall (fun _ _ => 0) ⟨#[], #[.int .i64 0, .int .i64 0], []⟩).memory Tryz.f4.params.toList Rows.repCodesSpec.vars false #[Value.int .i64 0, Value.int .i64 0].toList 8 = some ([.lit (.int .i64 0), .lit (.int .i64 0)], [], places) :=
  ⟨[], by kernel_rfl⟩
theorem lifted (os : Os) (started : os.Started) (H : Type) (enc : TypeId × Value → H) (F : Stop.Interp) :
    ReturnsInHanded {} Tryz.checked os 4 .any ((OpenSpec.ofChange Rows.repCodesSpec).preRow enc Tryz.prog Tryz.f4 Rows.repCodesRow.domain false Rows.repCodesRow.laid) (((OpenSpec.ofChange Rows.repCodesSpec).at F).post enc Tryz.prog Tryz.f4 false true false false) := by
  obtain ⟨places, hx⟩ := reads os enc
  refine returnsInHanded_of_row (C := Tryz.checked) (s := OpenSpec.ofChange Rows.repCodesSpec) own started (by kernel_rfl) Tryz.func4
    (witness_row_atRef (enc := enc) (C := Tryz.checked) false (laidWorld os) #[.int .i64 0, .int .i64 0] rfl (by kernel_rfl) (by kernel_rfl) (by kernel_rfl)
      (OpenSpec.preRow_of_cond 8 hx (by kernel_rfl) (fun k hk => by cases hk) (by kernel_rfl) (laid_met os))) ?_
  intro W base args ds gs before hval hW _ _ _ hL hS _
  exact contract H enc W base args ds gs before hval hW hL hS
end Go.Proofs.YtgklpnendmhbjaaGreatDoor.fnCodes
end
