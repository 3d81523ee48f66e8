/- The abstract machine's code is the program's. -/
import Derived.Test.YtgklpnendmhbjaaGreatDoorProg
import Derived.Test.YtgklpnendmhbjaaGreatDoorC
import Derived.Test.YtgklpnendmhbjaaGreatDoorA5
import Derived.Test.YtgklpnendmhbjaaGreatDoorP0
import Derived.Test.YtgklpnendmhbjaaGreatDoorP1
import Derived.Test.YtgklpnendmhbjaaGreatDoorP2
import Derived.Test.YtgklpnendmhbjaaGreatDoorP3
import Derived.KernelRfl
import Derived.Test.YtgklpnendmhbjaaGreatDoorRows
import Derived.Test.YtgklpnendmhbjaaGreatDoorA6
set_option linter.unusedSimpArgs false
set_option linter.unusedVariables false
set_option linter.unusedSectionVars false
set_option linter.unnecessarySimpa false
section
open Go Am Go.Proofs Go.RowKit
set_option maxRecDepth 100000
set_option maxHeartbeats 1000000
namespace Am
theorem allOk : ctA.All (CodeFact Tryz.prog cfgX rtabA) := ⟨⟨⟨⟨⟨⟨⟨trivial, ⟨e3, ⟨e4, e5⟩⟩⟩, ⟨⟨e6, ⟨e7, e8⟩⟩, ⟨⟨e9, e10⟩, ⟨e11, e12⟩⟩⟩⟩, ⟨⟨⟨e13, ⟨e14, e15⟩⟩, ⟨⟨e16, e17⟩, ⟨e18, e19⟩⟩⟩, ⟨⟨e20, ⟨e21, e22⟩⟩, ⟨⟨e23, e24⟩, ⟨e25, e26⟩⟩⟩⟩⟩, ⟨⟨⟨⟨e27, ⟨e28, e29⟩⟩, ⟨e30, ⟨e31, e32⟩⟩⟩, ⟨⟨e33, ⟨e34, e35⟩⟩, ⟨⟨e36, e37⟩, ⟨e38, e39⟩⟩⟩⟩, ⟨⟨⟨e40, ⟨e41, e42⟩⟩, ⟨⟨e43, e44⟩, ⟨e45, e46⟩⟩⟩, ⟨⟨e47, ⟨e48, e49⟩⟩, ⟨⟨e50, e51⟩, ⟨e52, e53⟩⟩⟩⟩⟩⟩, ⟨⟨⟨⟨⟨e54, ⟨e55, e56⟩⟩, ⟨e57, ⟨e58, e59⟩⟩⟩, ⟨⟨e60, ⟨e61, e62⟩⟩, ⟨⟨e63, e64⟩, ⟨e65, e66⟩⟩⟩⟩, ⟨⟨⟨e67, ⟨e68, e69⟩⟩, ⟨⟨e70, e71⟩, ⟨e72, e73⟩⟩⟩, ⟨⟨e74, ⟨e75, e76⟩⟩, ⟨⟨e77, e78⟩, ⟨e79, e80⟩⟩⟩⟩⟩, ⟨⟨⟨⟨e81, ⟨e82, e83⟩⟩, ⟨e84, ⟨e85, e86⟩⟩⟩, ⟨⟨e87, ⟨e88, e89⟩⟩, ⟨⟨e90, e91⟩, ⟨e92, e93⟩⟩⟩⟩, ⟨⟨⟨e94, ⟨e95, e96⟩⟩, ⟨⟨e97, e98⟩, ⟨e99, e100⟩⟩⟩, ⟨⟨e101, ⟨e102, e103⟩⟩, ⟨⟨e104, e105⟩, ⟨e106, e107⟩⟩⟩⟩⟩⟩⟩, ⟨⟨⟨⟨⟨⟨e108, ⟨e109, e110⟩⟩, ⟨e111, ⟨e112, e113⟩⟩⟩, ⟨⟨e114, ⟨e115, e116⟩⟩, ⟨⟨e117, e118⟩, ⟨e119, e120⟩⟩⟩⟩, ⟨⟨⟨e121, ⟨e122, e123⟩⟩, ⟨⟨e124, e125⟩, ⟨e126, e127⟩⟩⟩, ⟨⟨e128, ⟨e129, e130⟩⟩, ⟨⟨e131, e132⟩, ⟨e133, e134⟩⟩⟩⟩⟩, ⟨⟨⟨⟨e135, ⟨e136, e137⟩⟩, ⟨e138, ⟨e139, e140⟩⟩⟩, ⟨⟨e141, ⟨e142, e143⟩⟩, ⟨⟨e144, e145⟩, ⟨e146, e147⟩⟩⟩⟩, ⟨⟨⟨e148, ⟨e149, e150⟩⟩, ⟨⟨e151, e152⟩, ⟨e153, e154⟩⟩⟩, ⟨⟨e155, ⟨e156, e157⟩⟩, ⟨⟨e158, e159⟩, ⟨e160, e161⟩⟩⟩⟩⟩⟩, ⟨⟨⟨⟨⟨e162, ⟨e163, e164⟩⟩, ⟨e165, ⟨e166, e167⟩⟩⟩, ⟨⟨e168, ⟨e169, e170⟩⟩, ⟨⟨e171, e172⟩, ⟨e173, e174⟩⟩⟩⟩, ⟨⟨⟨e175, ⟨e176, e177⟩⟩, ⟨⟨e178, e179⟩, ⟨e180, e181⟩⟩⟩, ⟨⟨e182, ⟨e183, e184⟩⟩, ⟨⟨e185, e186⟩, ⟨e187, e188⟩⟩⟩⟩⟩, ⟨⟨⟨⟨e189, ⟨e190, e191⟩⟩, ⟨e192, ⟨e193, e194⟩⟩⟩, ⟨⟨e195, ⟨e196, e197⟩⟩, ⟨⟨e198, e199⟩, ⟨e200, e201⟩⟩⟩⟩, ⟨⟨⟨e202, ⟨e203, e204⟩⟩, ⟨⟨e205, e206⟩, ⟨e207, e208⟩⟩⟩, ⟨⟨e209, ⟨e210, e211⟩⟩, ⟨⟨e212, e213⟩, ⟨e214, e215⟩⟩⟩⟩⟩⟩⟩⟩, ⟨⟨⟨⟨⟨⟨⟨e216, ⟨e217, e218⟩⟩, ⟨e219, ⟨e220, e221⟩⟩⟩, ⟨⟨e222, ⟨e223, e224⟩⟩, ⟨⟨e225, e226⟩, ⟨e227, trivial⟩⟩⟩⟩, ⟨⟨⟨e229, ⟨e230, e231⟩⟩, ⟨⟨e232, e233⟩, ⟨e234, e235⟩⟩⟩, ⟨⟨e236, ⟨e237, e238⟩⟩, ⟨⟨e239, e240⟩, ⟨e241, e242⟩⟩⟩⟩⟩, ⟨⟨⟨⟨e243, ⟨e244, e245⟩⟩, ⟨e246, ⟨e247, e248⟩⟩⟩, ⟨⟨e249, ⟨e250, e251⟩⟩, ⟨⟨e252, e253⟩, ⟨e254, trivial⟩⟩⟩⟩, ⟨⟨⟨e256, ⟨e257, e258⟩⟩, ⟨⟨e259, e260⟩, ⟨e261, e262⟩⟩⟩, ⟨⟨e263, ⟨e264, e265⟩⟩, ⟨⟨e266, e267⟩, ⟨e268, e269⟩⟩⟩⟩⟩⟩, ⟨⟨⟨⟨⟨e270, ⟨e271, e272⟩⟩, ⟨e273, ⟨e274, e275⟩⟩⟩, ⟨⟨e276, ⟨trivial, e278⟩⟩, ⟨⟨e279, e280⟩, ⟨e281, e282⟩⟩⟩⟩, ⟨⟨⟨e283, ⟨e284, e285⟩⟩, ⟨⟨e286, e287⟩, ⟨e288, trivial⟩⟩⟩, ⟨⟨trivial, ⟨e291, e292⟩⟩, ⟨⟨e293, e294⟩, ⟨e295, e296⟩⟩⟩⟩⟩, ⟨⟨⟨⟨e297, ⟨e298, e299⟩⟩, ⟨e300, ⟨e301, e302⟩⟩⟩, ⟨⟨e303, ⟨e304, e305⟩⟩, ⟨trivial, ⟨e308, e309⟩⟩⟩⟩, ⟨⟨⟨e310, ⟨e311, e312⟩⟩, ⟨⟨e313, trivial⟩, ⟨trivial, e316⟩⟩⟩, ⟨⟨e317, ⟨e318, e319⟩⟩, ⟨⟨e320, e321⟩, ⟨e322, e323⟩⟩⟩⟩⟩⟩⟩, ⟨⟨⟨⟨⟨⟨trivial, ⟨trivial, e326⟩⟩, ⟨trivial, ⟨trivial, e329⟩⟩⟩, ⟨⟨e330, ⟨e331, e332⟩⟩, ⟨⟨e333, e334⟩, trivial⟩⟩⟩, ⟨⟨⟨e337, ⟨e338, e339⟩⟩, ⟨⟨e340, e341⟩, ⟨e342, e343⟩⟩⟩, ⟨⟨e344, ⟨e345, e346⟩⟩, ⟨⟨e347, e348⟩, ⟨e349, e350⟩⟩⟩⟩⟩, ⟨trivial, ⟨⟨⟨trivial, ⟨e365, trivial⟩⟩, ⟨trivial, ⟨e369, trivial⟩⟩⟩, ⟨⟨e371, ⟨trivial, e373⟩⟩, trivial⟩⟩⟩⟩, ⟨⟨⟨⟨⟨trivial, ⟨e379, e380⟩⟩, ⟨e381, ⟨e382, trivial⟩⟩⟩, ⟨trivial, ⟨trivial, ⟨trivial, e390⟩⟩⟩⟩, ⟨⟨⟨trivial, ⟨trivial, e393⟩⟩, ⟨⟨trivial, e395⟩, ⟨trivial, e397⟩⟩⟩, ⟨⟨trivial, ⟨e399, trivial⟩⟩, ⟨⟨e401, trivial⟩, ⟨e403, trivial⟩⟩⟩⟩⟩, ⟨⟨⟨⟨e405, trivial⟩, trivial⟩, trivial⟩, trivial⟩⟩⟩⟩⟩
def QX : AProg := progOf ctA keepA rtabA 21
theorem aokX : AOk Tryz.prog cfgX QX := aok (Nat.le_of_ble_eq_true (by kernel_rfl)) mixedT rto.1 rto.2 allOk
end Am
end
section
open Go Am Go.Proofs Go.RowKit
namespace AmA
set_option maxRecDepth 100000
set_option maxHeartbeats 1000000
def laidL : List (String × DataW Unit) := YtgklpnendmhbjaaGreatDoor.Rows.repAnswersRow.laid
def namesL : List (Nat × String) := [(0, "latiner/tlv.errNode"), (1, "latiner/rep.errRep"), (3, "latiner/tlv.errShort"), (4, "latiner/tlv.errForm"), (5, "latiner/tlv.errTag"), (7, "latiner/part.errPart"), (8, "latiner/dn.errDn"), (9, "latiner/prim.errBool"), (10, "latiner/size.errSize"), (11, "latiner/size.errShort"), (12, "latiner/size.errForm"), (13, "latiner/prim.errNumber"), (18, "latiner/esc.errEscape"), (19, "latiner/code.errCode")]
def objsL : List Am.Obj := [.cells 80 [.iface 428 (.sent 0)], .cells 80 [.iface 428 (.sent 1)], .dead, .cells 80 [.iface 428 (.sent 3)], .cells 80 [.iface 428 (.sent 4)], .cells 80 [.iface 428 (.sent 5)], .cells 178 [.iface 233 (.agg [.hdl 80])], .cells 80 [.iface 428 (.sent 7)], .cells 80 [.iface 428 (.sent 8)], .cells 80 [.iface 428 (.sent 9)], .cells 80 [.iface 428 (.sent 10)], .cells 80 [.iface 428 (.sent 11)], .cells 80 [.iface 428 (.sent 12)], .cells 80 [.iface 428 (.sent 13)], .dead, .laid 0, .laid 1, .laid 2, .cells 80 [.iface 428 (.sent 18)], .cells 80 [.iface 428 (.sent 19)], .dead]
def firstZ : List Int := Go.Pinned.utf8FirstZ.map fun (n : Nat) => (n : Int)
def accZ : List (Int × Int) := (List.range 16).map fun i => (accA i, accB i)
theorem star : "*" ++ "errors.errorString" = "*errors.errorString" := by decide
theorem rowE (u : TypeId) (h : Tryz.prog.typeName? 3 u = some "*errors.errorString") : u = 428 :=
  typeName_ptr_named (nm := "errors.errorString") (by rw [star]; kernel_rfl) (by kernel_rfl) (by decide) u (by rw [star]; exact h)
theorem errE : ErrEnv Tryz.prog 80 428 446 where
  hi := ⟨_, Tryz.underlying80⟩
  hrow := rowE
  hp := Tryz.underlying428
  he := ⟨_, 9, Tryz.underlying446, rfl, rfl, Tryz.underlying9, by kernel_rfl⟩
  hc := by kernel_rfl
theorem globE : globCheck Tryz.prog 446 = true := by kernel_rfl
theorem namesE : namesCheck Tryz.prog laidL namesL = true := by kernel_rfl
theorem typesE : errTypes Tryz.prog 80 laidL = true := by kernel_rfl
theorem uniqErr : ∀ t, t < Tryz.prog.types.size → Tryz.prog.rowNamed t [101, 114, 114, 111, 114] = true → t = 80 := by
  have h : ((List.range Tryz.prog.types.size).all fun t => !Tryz.prog.rowNamed t [101, 114, 114, 111, 114] || t == 80) = true := by kernel_rfl
  intro t ht hr
  have := List.all_eq_true.1 h t (List.mem_range.2 ht)
  simpa [hr] using this
theorem firstOk : LaidOk 1 (firstZ.map fun z => Value.int .u8 z).toArray := by
  have h : ((List.range 256).all fun i => firstZ[i]? == some (fstT i)) = true := by kernel_rfl
  intro i hi
  have := List.all_eq_true.1 h i (List.mem_range.2 hi)
  rw [beq_iff_eq] at this
  simp [this]
theorem accFact {W : World} (hL : laidMetH Tryz.prog laidL W) (hS : W.ShapedOpen Tryz.prog) {G' : Nat} {M : Mp} : ORel Tryz.prog G' M W 17 (.laid 2) := by
  obtain ⟨ps, hl, _⟩ := (split_laid hL).1
  obtain ⟨g', t', cs, fuel, p, hg', ht', hv, hd⟩ := laid_one hl (n := "unicode/utf8.acceptRanges") (d := YtgklpnendmhbjaaGreatDoor.Rows.laid_unicode_utf8_acceptRanges) (List.mem_filter.2 ⟨List.mem_of_getElem? (i := 0) (by kernel_rfl), rfl⟩)
  have e1 : g' = 17 := Option.some.inj (hg'.symm.trans (by kernel_rfl))
  subst e1
  have e2 : t' = 415 := Option.some.inj (ht'.symm.trans (by kernel_rfl))
  subst e2
  have hp := cells_of_pairs (zs := accZ) Tryz.underlying415 Tryz.underlying414 rfl rfl rfl rfl Tryz.underlying5 (by kernel_rfl) (by kernel_rfl) (by kernel_rfl) hd
  refine obj_laid hS (n := "unicode/utf8.acceptRanges") (z := 32) (t := 415) (by kernel_rfl) (Nat.le_of_ble_eq_true (by kernel_rfl)) (by kernel_rfl) hv (fun i hi => ?_)
  have := hp.2 i (accA i, accB i) (by simp [accZ, hi])
  simpa using this
theorem startE {W : World} (hL : laidMetH Tryz.prog laidL W) (hS : W.ShapedOpen Tryz.prog) : Start Tryz.prog objsL (namesL.map (·.1)) W :=
  start_of errE hL hS globE namesE typesE (by kernel_rfl) fun hn =>
    ⟨obj_sent hS hn "latiner/tlv.errNode" (z := 1) (List.contains_iff_mem.1 (by kernel_rfl)) (Nat.le_of_ble_eq_true (by kernel_rfl)) (by kernel_rfl), obj_sent hS hn "latiner/rep.errRep" (z := 1) (List.contains_iff_mem.1 (by kernel_rfl)) (Nat.le_of_ble_eq_true (by kernel_rfl)) (by kernel_rfl), trivial, obj_sent hS hn "latiner/tlv.errShort" (z := 1) (List.contains_iff_mem.1 (by kernel_rfl)) (Nat.le_of_ble_eq_true (by kernel_rfl)) (by kernel_rfl), obj_sent hS hn "latiner/tlv.errForm" (z := 1) (List.contains_iff_mem.1 (by kernel_rfl)) (Nat.le_of_ble_eq_true (by kernel_rfl)) (by kernel_rfl), obj_sent hS hn "latiner/tlv.errTag" (z := 1) (List.contains_iff_mem.1 (by kernel_rfl)) (Nat.le_of_ble_eq_true (by kernel_rfl)) (by kernel_rfl), obj_cell hS (n := "errors.errorType") (z := 1) (by kernel_rfl) (Nat.le_of_ble_eq_true (by kernel_rfl)) (by kernel_rfl) (var_handle (split_laid hL).2 (d := YtgklpnendmhbjaaGreatDoor.Rows.laid_errors_errorType) (name := [101, 114, 114, 111, 114]) (List.mem_filter.2 ⟨List.mem_of_getElem? (i := 1) (by kernel_rfl), rfl⟩) rfl rfl (by kernel_rfl) uniqErr) (.iface (LRel.cons .hdl .nil).agg), obj_sent hS hn "latiner/part.errPart" (z := 1) (List.contains_iff_mem.1 (by kernel_rfl)) (Nat.le_of_ble_eq_true (by kernel_rfl)) (by kernel_rfl), obj_sent hS hn "latiner/dn.errDn" (z := 1) (List.contains_iff_mem.1 (by kernel_rfl)) (Nat.le_of_ble_eq_true (by kernel_rfl)) (by kernel_rfl), obj_sent hS hn "latiner/prim.errBool" (z := 1) (List.contains_iff_mem.1 (by kernel_rfl)) (Nat.le_of_ble_eq_true (by kernel_rfl)) (by kernel_rfl), obj_sent hS hn "latiner/size.errSize" (z := 1) (List.contains_iff_mem.1 (by kernel_rfl)) (Nat.le_of_ble_eq_true (by kernel_rfl)) (by kernel_rfl), obj_sent hS hn "latiner/size.errShort" (z := 1) (List.contains_iff_mem.1 (by kernel_rfl)) (Nat.le_of_ble_eq_true (by kernel_rfl)) (by kernel_rfl), obj_sent hS hn "latiner/size.errForm" (z := 1) (List.contains_iff_mem.1 (by kernel_rfl)) (Nat.le_of_ble_eq_true (by kernel_rfl)) (by kernel_rfl), obj_sent hS hn "latiner/prim.errNumber" (z := 1) (List.contains_iff_mem.1 (by kernel_rfl)) (Nat.le_of_ble_eq_true (by kernel_rfl)) (by kernel_rfl), trivial, obj_mx hS (t := 3) (Nat.le_of_ble_eq_true (by kernel_rfl)) (by kernel_rfl) rfl (by kernel_rfl) (by kernel_rfl) (by kernel_rfl), obj_laid hS (n := "unicode/utf8.first") (z := 256) (t := 412) (by kernel_rfl) (Nat.le_of_ble_eq_true (by kernel_rfl)) (by kernel_rfl) (var_tab (split_laid hL).1 (g := 16) (zs := firstZ) (List.mem_filter.2 ⟨List.mem_of_getElem? (i := 16) (by kernel_rfl), rfl⟩) (by kernel_rfl) (by kernel_rfl) Tryz.underlying412 Tryz.underlying5 (by kernel_rfl) (by kernel_rfl)) firstOk, accFact hL hS, obj_sent hS hn "latiner/esc.errEscape" (z := 1) (List.contains_iff_mem.1 (by kernel_rfl)) (Nat.le_of_ble_eq_true (by kernel_rfl)) (by kernel_rfl), obj_sent hS hn "latiner/code.errCode" (z := 1) (List.contains_iff_mem.1 (by kernel_rfl)) (Nat.le_of_ble_eq_true (by kernel_rfl)) (by kernel_rfl), trivial, trivial⟩
end AmA
end
