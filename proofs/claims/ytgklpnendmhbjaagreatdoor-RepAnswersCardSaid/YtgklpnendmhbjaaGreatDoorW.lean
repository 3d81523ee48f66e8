/- RepAnswers: the contract, from the abstract machine. -/
import Derived.Test.YtgklpnendmhbjaaGreatDoorCards
import Derived.Test.YtgklpnendmhbjaaGreatDoorTie
import Derived.WalkKit
import Derived.ProofKit
import Derived.OpenShut
import Derived.Deep.DeepHandedRow
import Derived.Test.YtgklpnendmhbjaaGreatDoorR
import Derived.Test.YtgklpnendmhbjaaGreatDoorA6
import Derived.LaidHandle
import Derived.Deep.DeepWitnessRowRef
import Derived.KernelRfl
set_option linter.unusedSimpArgs false
set_option linter.unusedVariables false
set_option linter.unusedSectionVars false
set_option linter.unnecessarySimpa false
set_option maxRecDepth 100000
namespace Go.Proofs.YtgklpnendmhbjaaGreatDoor.fnAnswers
open Go.ChangeShapes Go.WideShapes Go.ChangeAt Go.RowKit Am AmA

noncomputable def low : Nat := (World.holding Tryz.prog default ⟨#[], #[], []⟩).heap.size
noncomputable def modsL : List (Nat × Array Value) := [(0, #[.iface 428 (.pointer (some ⟨low + 0, 0, none⟩))]), (1, #[.iface 428 (.pointer (some ⟨low + 1, 0, none⟩))]), (3, #[.iface 428 (.pointer (some ⟨low + 2, 0, none⟩))]), (4, #[.iface 428 (.pointer (some ⟨low + 3, 0, none⟩))]), (5, #[.iface 428 (.pointer (some ⟨low + 4, 0, none⟩))]), (7, #[.iface 428 (.pointer (some ⟨low + 5, 0, none⟩))]), (8, #[.iface 428 (.pointer (some ⟨low + 6, 0, none⟩))]), (9, #[.iface 428 (.pointer (some ⟨low + 7, 0, none⟩))]), (10, #[.iface 428 (.pointer (some ⟨low + 8, 0, none⟩))]), (11, #[.iface 428 (.pointer (some ⟨low + 9, 0, none⟩))]), (12, #[.iface 428 (.pointer (some ⟨low + 10, 0, none⟩))]), (13, #[.iface 428 (.pointer (some ⟨low + 11, 0, none⟩))]), (18, #[.iface 428 (.pointer (some ⟨low + 12, 0, none⟩))]), (19, #[.iface 428 (.pointer (some ⟨low + 13, 0, none⟩))]), (6, #[.iface 233 (.agg #[typeHandle Tryz.prog 80])]), (16, (firstZ.map fun z => Value.int .u8 z).toArray), (17, (accZ.flatMap fun z => [Value.int .u8 z.1, Value.int .u8 z.2]).toArray)]
noncomputable def laidWorld (os : Os) : World :=
  let w0 := World.holding Tryz.prog os ⟨#[.cells #[.string ⟨#[110, 111, 32, 116, 114, 101, 101]⟩] 446, .cells #[.string ⟨#[110, 111, 32, 114, 101, 115, 112, 111, 110, 115, 101]⟩] 446, .cells #[.string ⟨#[116, 111, 111, 32, 115, 104, 111, 114, 116]⟩] 446, .cells #[.string ⟨#[109, 111, 114, 101, 32, 98, 101, 104, 105, 110, 100, 32, 105, 116]⟩] 446, .cells #[.string ⟨#[110, 111, 32, 116, 97, 103]⟩] 446, .cells #[.string ⟨#[110, 111, 32, 112, 97, 114, 116]⟩] 446, .cells #[.string ⟨#[110, 111, 32, 110, 97, 109, 101]⟩] 446, .cells #[.string ⟨#[110, 111, 32, 98, 111, 111, 108, 101, 97, 110]⟩] 446, .cells #[.string ⟨#[116, 111, 111, 32, 103, 114, 101, 97, 116]⟩] 446, .cells #[.string ⟨#[116, 111, 111, 32, 115, 104, 111, 114, 116]⟩] 446, .cells #[.string ⟨#[110, 111, 32, 108, 101, 110, 103, 116, 104]⟩] 446, .cells #[.string ⟨#[110, 111, 32, 110, 117, 109, 98, 101, 114]⟩] 446, .cells #[.string ⟨#[110, 111, 32, 118, 97, 108, 117, 101]⟩] 446, .cells #[.string ⟨#[110, 111, 32, 99, 111, 100, 101]⟩] 446], #[], []⟩
  { w0 with heap := modsL.foldl (fun h m => h.modify m.1 fun | .cells _ t fz => .cells m.2 t fz | o => o) w0.heap }
theorem laid_met (os : Os) : laidMetH Tryz.prog Rows.repAnswersRow.laid ((laidWorld os).forCall (fun _ _ => 0) ⟨#[], #[.int .i64 0, .int .i64 0], []⟩).memory :=
  laidMetH_of_parts (laidMet_of_run' 8 (by kernel_rfl) (by kernel_rfl)) (by kernel_rfl)


set_option maxRecDepth 100000 in
theorem contract (H : Type) (enc : TypeId × Value → H) (W : World) (base : Nat) (args : Array Value) (ds gs : List (DataW H)) (before : List MemPlace)
    (hval : ∀ (j : Nat) t v, Tryz.f7.params[j]? = some t → args[j]? = some v → Value.okWide Tryz.prog W .any base t v)
    (hW : DataW.Whole enc Tryz.prog Tryz.f7.params.toList Rows.repAnswersSpec.vars false W args.toList ds gs before) (hL : laidMetH Tryz.prog Rows.repAnswersRow.laid W) (hS : W.ShapedOpen Tryz.prog) :
    Calls Tryz.prog 7 args W fun e W' => ∃ v, e = .returned v ∧ Rows.repAnswersSpec.post enc Tryz.prog Tryz.f7 false true false false W args v W' := by
  have hW' := hW
  obtain ⟨p, q, hA0, hV, rfl, hfz, hnd⟩ := hW
  have hA : DataW.TrodAll enc Tryz.prog W 0 (fun _ => true) true Tryz.f7.params.toList args.toList ds p := hA0
  rw [Tryz.params7] at hA hval
  obtain ⟨v0, vs0, d0, ds0, p0, q0, hargs, rfl, rfl, h0, r0⟩ := trodAll_cons hA
  obtain ⟨v1, vs1, d1, ds1, p1, q1, hargs1, rfl, rfl, h1, r1⟩ := trodAll_cons r0
  obtain ⟨rfl, rfl, rfl⟩ := trodAll_nil r1
  obtain rfl : args = #[v0, v1] := by cases args; simp_all
  obtain ⟨rfl, rfl⟩ := trodVars_none hV
  obtain ⟨a, rfl, rfl, rfl, wa⟩ := open_int Tryz.underlying3 (hval 0 3 v0 rfl rfl) h0
  obtain ⟨b, rfl, rfl, rfl, wb⟩ := open_int Tryz.underlying3 (hval 1 3 v1 rfl rfl) h1
  clear hA0
  simp only [List.append_nil] at hW'
  have s := startE hL hS
  have hc := start_calls aokX s (n := 300) (f := 7) (by kernel_rfl) (by kernel_rfl) (answersAM a b) rfl (cargs := #[.int .i64 a, .int .i64 b]) (LRel.cons .int (LRel.cons .int .nil))
  refine hc.mono fun e W' ⟨c, M', he, hv, _, _, hk, hio⟩ => ?_
  cases hv
  subst he
  exact ⟨_, rfl, post_same (pa := []) (pv := []) hW' (fun _ _ _ => trodAll_cons_mk (shut_bool Tryz.underlying4 _) trodAll_mk0) (fun _ _ => trodAll_cons_mk (shut_int Tryz.underlying3 wa) (trodAll_cons_mk (shut_int Tryz.underlying3 wb) trodAll_mk0)) (fun _ _ => rfl) rfl
    hio.1 hio.2 hk (ok_one (by kernel_rfl) rfl (okWide_bool_mk Tryz.underlying4 _))⟩

theorem own : ownKnob Tryz.prog.godebug = none := by kernel_rfl
theorem reads (os : Os) {H : Type} (enc : TypeId × Value → H) : ∃ places, DataW.whole enc Tryz.prog ((laidWorld os).forCall (fun _ _ => 0) ⟨#[], #[.int .i64 0, .int .i64 0], []⟩).memory Tryz.f7.params.toList Rows.repAnswersSpec.vars false #[Value.int .i64 0, Value.int .i64 0].toList 8 = some ([.lit (.int .i64 0), .lit (.int .i64 0)], [], places) :=
  ⟨[], by kernel_rfl⟩
theorem lifted (os : Os) (started : os.Started) (H : Type) (enc : TypeId × Value → H) (F : Stop.Interp) :
    ReturnsInHanded {} Tryz.checked os 7 .any ((OpenSpec.ofChange Rows.repAnswersSpec).preRow enc Tryz.prog Tryz.f7 Rows.repAnswersRow.domain false Rows.repAnswersRow.laid) (((OpenSpec.ofChange Rows.repAnswersSpec).at F).post enc Tryz.prog Tryz.f7 false true false false) := by
  obtain ⟨places, hx⟩ := reads os enc
  refine returnsInHanded_of_row (C := Tryz.checked) (s := OpenSpec.ofChange Rows.repAnswersSpec) own started (by kernel_rfl) Tryz.func7
    (witness_row_atRef (enc := enc) (C := Tryz.checked) false (laidWorld os) #[.int .i64 0, .int .i64 0] rfl (by kernel_rfl) (by kernel_rfl) (by kernel_rfl)
      (OpenSpec.preRow_of_cond 8 hx (by kernel_rfl) (fun k hk => by cases hk) (by kernel_rfl) (laid_met os))) ?_
  intro W base args ds gs before hval hW _ _ _ hL hS _
  exact contract H enc W base args ds gs before hval hW hL hS
end Go.Proofs.YtgklpnendmhbjaaGreatDoor.fnAnswers
