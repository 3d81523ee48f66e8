/- What the program says of its types, and of functions of Go that the abstract machine carries out at once. -/
import Derived.Test.YtgklpnendmhbjaaGreatDoorProg
import Derived.Test.YtgklpnendmhbjaaGreatDoorC
import Derived.Test.YtgklpnendmhbjaaGreatDoorA5
import Derived.Test.YtgklpnendmhbjaaGreatDoorShelf
import Derived.WalkKit
import Derived.Lib.Builder
import Derived.Laws.Externs
import Derived.KernelRfl
set_option linter.unusedSimpArgs false
set_option linter.unusedVariables false
set_option linter.unusedSectionVars false
set_option linter.unnecessarySimpa false
open Go Am Go.Proofs Go.RowKit
set_option maxRecDepth 100000
set_option maxHeartbeats 1000000
namespace Am
def cfgX : TrCfg := { own := fun f => [225,257].contains f, prim := fun f => ([(117,10),(118,11),(119,12),(121,15),(177,3),(183,13),(184,14),(196,2),(276,7),(281,0),(309,0),(311,6),(346,4),(365,16),(379,19),(380,18),(381,17),(382,20)] : List (Nat × Nat)).lookup f }
theorem rtc : rtCheck Tryz.prog rtabA = true := by kernel_rfl
theorem toTy (t : Nat) (w : World) : (Go.Extern.ReflectliteType.toType t).run Tryz.prog w = .ok (.iface rtabA.rtype (.agg #[typeHandle Tryz.prog t])) w := by kernel_rfl
theorem rto : RtOk Tryz.prog rtabA ∧ ∀ t i, rtabA.get t = some i → i.kind = 22 → i.agg = false ∧ i.size = 1 := rtOk_of rtc toTy
theorem mixedT : Tryz.prog.follows .mixedOrders = true := by kernel_rfl
theorem lic : liesCheck Tryz.prog rtabA 287 = true := by kernel_rfl
theorem sizeOfBt : (Tryz.prog.info? 287).map (·.size) = some 2 := by kernel_rfl
theorem cc_used (b o : Nat) (w : World) (h0 : w.cell? ⟨b, o, none⟩ = some (.pointer (some ⟨b, o, none⟩))) :
    Calls Tryz.prog 276 #[.pointer (some ⟨b, o, none⟩)] w fun e w' => e = .returned (.tuple #[]) ∧ w' = w := by
  obtain ⟨j, hj, _⟩ := Option.map_eq_some_iff.1 sizeOfBt
  go_enter Tryz.func276, Tryz.ntmps276
  go_wp2
  rw [Lib.run_neq_ptr_same w _ Tryz.underlying285 hj]
  go_wp2
  go_end0
  exact ⟨rfl, rfl⟩
theorem cc_fresh (b o : Nat) (ty : TypeId) (arr : Array Value) (fz : Nat × Nat) (w : World) (hb : w.heap[b]? = some (.cells arr ty fz)) (ho : o < arr.size) (hl : rtabA.lies.contains (ty, o, arr.size) = true)
    (h0 : w.cell? ⟨b, o, none⟩ = some (.pointer none)) (hfz : w.frozen? ⟨b, o, none⟩ = false) :
    Calls Tryz.prog 276 #[.pointer (some ⟨b, o, none⟩)] w fun e w' => e = .returned (.tuple #[]) ∧ w' = w.setCell ⟨b, o, none⟩ (.pointer (some ⟨b, o, none⟩)) := by
  obtain ⟨j, hj, hjs⟩ := Option.map_eq_some_iff.1 sizeOfBt
  have hsh : w.shape? b = some (ty, arr.size) := by simp [World.shape?, hb]
  have hl' := lies_of lic hl
  go_enter Tryz.func276, Tryz.ntmps276
  go_wp2
  rw [Lib.run_to_unsafe w ⟨b, o, none⟩ Tryz.underlying285 Tryz.underlying172 hj (by rw [hjs]; decide) hsh ho]
  simp only [Result.andThen]
  rw [Oper.upon_value]
  go_wp2
  rw [run_callFunc_extern Tryz.func306 (by kernel_rfl) (by kernel_rfl) (by kernel_rfl) (e := Extern.AbiNoEscape.same) (by kernel_rfl)]
  rw [Lib.run_noEscape]
  simp only [Result.andThen]
  rw [Oper.upon_value]
  go_wp2
  rw [Lib.run_from_unsafe w ⟨b, o, none⟩ Tryz.underlying172 Tryz.underlying285 hj hsh hl']
  simp only [Result.andThen]
  rw [Oper.upon_value]
  go_wp2
  go_end0
  exact ⟨rfl, rfl⟩
theorem q117 : PrimFact Tryz.prog rtabA 117 10 := .p10 (fun xs w => run_callFunc_extern (e := fun xs => Go.Extern.ReflectliteValue.unpack (xs.getD 0 (.tuple #[]))) Tryz.func117 (by kernel_rfl) (by kernel_rfl) (by kernel_rfl) (by kernel_rfl) xs w)
theorem q118 : PrimFact Tryz.prog rtabA 118 11 := .p11 (fun xs w => run_callFunc_extern (e := Go.Extern.ReflectliteValue.methodAny (Go.Extern.ReflectliteValue.valueError "reflectlite.Value.Type" 0) (fun t _ _ _ => Go.Extern.ReflectliteType.toType t)) Tryz.func118 (by kernel_rfl) (by kernel_rfl) (by kernel_rfl) (by kernel_rfl) xs w)
theorem q119 : PrimFact Tryz.prog rtabA 119 12 := .p12 (fun xs w => run_callFunc_extern (e := Go.Extern.ReflectliteValue.method (Go.Extern.ReflectliteValue.valueError "reflectlite.Value.IsNil" 0) Go.Extern.ReflectliteValue.isNil) Tryz.func119 (by kernel_rfl) (by kernel_rfl) (by kernel_rfl) (by kernel_rfl) xs w)
theorem q121 : PrimFact Tryz.prog rtabA 121 15 := .p15 (fun xs w => run_callFunc_extern (e := Go.Extern.ReflectliteType.typeOf) Tryz.func121 (by kernel_rfl) (by kernel_rfl) (by kernel_rfl) (by kernel_rfl) xs w)
theorem q177 : PrimFact Tryz.prog rtabA 177 3 := .p3 (enters Tryz.func177 (by kernel_rfl) (by kernel_rfl)) (fun a c sep w => Tryz.strings_Join_none a c sep w) fun bk o c xs sep w h1 h2 h3 h4 h5 => Tryz.strings_Join bk o c xs sep w h1 h2 h3 h4 h5
theorem q183 : PrimFact Tryz.prog rtabA 183 13 := .p13 (fun xs w => run_callFunc_extern (e := Go.Extern.ReflectliteValue.method (Go.Extern.ReflectliteValue.valueError "reflectlite.Value.Elem" 0) Go.Extern.ReflectliteValue.elem) Tryz.func183 (by kernel_rfl) (by kernel_rfl) (by kernel_rfl) (by kernel_rfl) xs w)
theorem q184 : PrimFact Tryz.prog rtabA 184 14 := .p14 (fun xs w => run_callFunc_extern (e := Go.Extern.ReflectliteValue.set) Tryz.func184 (by kernel_rfl) (by kernel_rfl) (by kernel_rfl) (by kernel_rfl) xs w)
theorem q196 : PrimFact Tryz.prog rtabA 196 2 := .p2 (enters Tryz.func196 (by kernel_rfl) (by kernel_rfl)) (Nat.le_of_ble_eq_true (by kernel_rfl)) _ fun s sep m w hs hm h1 => Tryz.strings_Split s sep m w hs hm h1
theorem q276 : PrimFact Tryz.prog rtabA 276 7 := .p7 (enters Tryz.func276 (by kernel_rfl) (by kernel_rfl)) cc_used cc_fresh
theorem q281 : PrimFact Tryz.prog rtabA 281 0 := .p0 (enters Tryz.func281 (by kernel_rfl) (by kernel_rfl)) (Nat.le_of_ble_eq_true (by kernel_rfl)) fun s sub m w hs hm => Tryz.strings_Index s sub m w hs hm
theorem q309 : PrimFact Tryz.prog rtabA 309 0 := .p0 (enters Tryz.func309 (by kernel_rfl) (by kernel_rfl)) (Nat.le_of_ble_eq_true (by kernel_rfl)) fun s sub m w hs hm => Tryz.stringslite_Index s sub m w hs hm
theorem q311 : PrimFact Tryz.prog rtabA 311 6 := .p6 (enters Tryz.func311 (by kernel_rfl) (by kernel_rfl)) (Nat.le_of_ble_eq_true (by kernel_rfl)) (Nat.le_of_ble_eq_true (by kernel_rfl)) fun s w h => Tryz.utf8_DecodeRuneInString s w h
theorem q346 : PrimFact Tryz.prog rtabA 346 4 := .p4 (enters Tryz.func346 (by kernel_rfl) (by kernel_rfl)) fun s c w => Tryz.strings_IndexByte s c w
theorem q365 : PrimFact Tryz.prog rtabA 365 16 := .p16 (fun xs w => run_callFunc_extern (e := Go.Extern.ReflectliteType.abiMethod (fun t => do Pure.pure (Value.int .u8 (← Go.Extern.Rtype.kind t)))) Tryz.func365 (by kernel_rfl) (by kernel_rfl) (by kernel_rfl) (by kernel_rfl) xs w)
theorem q379 : PrimFact Tryz.prog rtabA 379 19 := .p19 (fun xs w => run_callFunc_extern (e := Go.Extern.ReflectliteType.relation "AssignableTo" Go.Extern.ReflectliteType.assignableTo) Tryz.func379 (by kernel_rfl) (by kernel_rfl) (by kernel_rfl) (by kernel_rfl) xs w)
theorem q380 : PrimFact Tryz.prog rtabA 380 18 := .p18 (fun xs w => run_callFunc_extern (e := Go.Extern.ReflectliteType.method (fun t => do Go.Extern.Rtype.noPackHeld "Comparable" t; Pure.pure (Value.bool (← typeInfo t).comparable))) Tryz.func380 (by kernel_rfl) (by kernel_rfl) (by kernel_rfl) (by kernel_rfl) xs w)
theorem q381 : PrimFact Tryz.prog rtabA 381 17 := .p17 (fun xs w => run_callFunc_extern (e := Go.Extern.ReflectliteType.method Go.Extern.ReflectliteType.elem) Tryz.func381 (by kernel_rfl) (by kernel_rfl) (by kernel_rfl) (by kernel_rfl) xs w)
theorem q382 : PrimFact Tryz.prog rtabA 382 20 := .p20 (fun xs w => run_callFunc_extern (e := Go.Extern.ReflectliteType.relation "Implements" Go.Extern.ReflectliteType.implements_) Tryz.func382 (by kernel_rfl) (by kernel_rfl) (by kernel_rfl) (by kernel_rfl) xs w)
end Am
