/- The abstract machine's code of functions is made of the program's (part 1). -/
import Derived.Test.YtgklpnendmhbjaaGreatDoorProg
import Derived.Test.YtgklpnendmhbjaaGreatDoorC
import Derived.Test.YtgklpnendmhbjaaGreatDoorA5
import Derived.Test.YtgklpnendmhbjaaGreatDoorB
import Derived.KernelRfl
set_option linter.unusedSimpArgs false
set_option linter.unusedVariables false
set_option linter.unusedSectionVars false
set_option linter.unnecessarySimpa false
open Go Am Go.Proofs Go.RowKit
set_option maxRecDepth 100000
set_option maxHeartbeats 1000000
namespace Am
theorem e8 : CodeFact Tryz.prog cfgX rtabA 8 c8 := ⟨by kernel_rfl, fun p e => by cases e⟩
theorem e14 : CodeFact Tryz.prog cfgX rtabA 14 c14 := ⟨by kernel_rfl, fun p e => by cases e⟩
theorem e15 : CodeFact Tryz.prog cfgX rtabA 15 c15 := ⟨by kernel_rfl, fun p e => by cases e⟩
theorem e19 : CodeFact Tryz.prog cfgX rtabA 19 c19 := ⟨by kernel_rfl, fun p e => by cases e⟩
theorem e28 : CodeFact Tryz.prog cfgX rtabA 28 c28 := ⟨by kernel_rfl, fun p e => by cases e⟩
theorem e32 : CodeFact Tryz.prog cfgX rtabA 32 c32 := ⟨by kernel_rfl, fun p e => by cases e⟩
theorem e41 : CodeFact Tryz.prog cfgX rtabA 41 c41 := ⟨by kernel_rfl, fun p e => by cases e⟩
theorem e47 : CodeFact Tryz.prog cfgX rtabA 47 c47 := ⟨by kernel_rfl, fun p e => by cases e⟩
theorem e49 : CodeFact Tryz.prog cfgX rtabA 49 c49 := ⟨by kernel_rfl, fun p e => by cases e⟩
theorem e50 : CodeFact Tryz.prog cfgX rtabA 50 c50 := ⟨by kernel_rfl, fun p e => by cases e⟩
theorem e53 : CodeFact Tryz.prog cfgX rtabA 53 c53 := ⟨by kernel_rfl, fun p e => by cases e⟩
theorem e59 : CodeFact Tryz.prog cfgX rtabA 59 c59 := ⟨by kernel_rfl, fun p e => by cases e⟩
theorem e60 : CodeFact Tryz.prog cfgX rtabA 60 c60 := ⟨by kernel_rfl, fun p e => by cases e⟩
theorem e64 : CodeFact Tryz.prog cfgX rtabA 64 c64 := ⟨by kernel_rfl, fun p e => by cases e⟩
theorem e70 : CodeFact Tryz.prog cfgX rtabA 70 c70 := ⟨by kernel_rfl, fun p e => by cases e⟩
theorem e77 : CodeFact Tryz.prog cfgX rtabA 77 c77 := ⟨by kernel_rfl, fun p e => by cases e⟩
theorem e78 : CodeFact Tryz.prog cfgX rtabA 78 c78 := ⟨by kernel_rfl, fun p e => by cases e⟩
theorem e83 : CodeFact Tryz.prog cfgX rtabA 83 c83 := ⟨by kernel_rfl, fun p e => by cases e⟩
theorem e88 : CodeFact Tryz.prog cfgX rtabA 88 c88 := ⟨by kernel_rfl, fun p e => by cases e⟩
theorem e91 : CodeFact Tryz.prog cfgX rtabA 91 c91 := ⟨by kernel_rfl, fun p e => by cases e⟩
theorem e94 : CodeFact Tryz.prog cfgX rtabA 94 c94 := ⟨by kernel_rfl, fun p e => by cases e⟩
theorem e97 : CodeFact Tryz.prog cfgX rtabA 97 c97 := ⟨by kernel_rfl, fun p e => by cases e⟩
theorem e105 : CodeFact Tryz.prog cfgX rtabA 105 c105 := ⟨by kernel_rfl, fun p e => by cases e⟩
theorem e106 : CodeFact Tryz.prog cfgX rtabA 106 c106 := ⟨by kernel_rfl, fun p e => by cases e⟩
theorem e108 : CodeFact Tryz.prog cfgX rtabA 108 c108 := ⟨by kernel_rfl, fun p e => by cases e⟩
theorem e110 : CodeFact Tryz.prog cfgX rtabA 110 c110 := ⟨by kernel_rfl, fun p e => by cases e⟩
theorem e116 : CodeFact Tryz.prog cfgX rtabA 116 c116 := ⟨by kernel_rfl, fun p e => by cases e⟩
theorem e118 : CodeFact Tryz.prog cfgX rtabA 118 c118 := ⟨by kernel_rfl, fun p e => by cases e; exact q118⟩
theorem e122 : CodeFact Tryz.prog cfgX rtabA 122 c122 := ⟨by kernel_rfl, fun p e => by cases e⟩
theorem e124 : CodeFact Tryz.prog cfgX rtabA 124 c124 := ⟨by kernel_rfl, fun p e => by cases e⟩
theorem e125 : CodeFact Tryz.prog cfgX rtabA 125 c125 := ⟨by kernel_rfl, fun p e => by cases e⟩
theorem e130 : CodeFact Tryz.prog cfgX rtabA 130 c130 := ⟨by kernel_rfl, fun p e => by cases e⟩
theorem e133 : CodeFact Tryz.prog cfgX rtabA 133 c133 := ⟨by kernel_rfl, fun p e => by cases e⟩
theorem e138 : CodeFact Tryz.prog cfgX rtabA 138 c138 := ⟨by kernel_rfl, fun p e => by cases e⟩
theorem e139 : CodeFact Tryz.prog cfgX rtabA 139 c139 := ⟨by kernel_rfl, fun p e => by cases e⟩
theorem e141 : CodeFact Tryz.prog cfgX rtabA 141 c141 := ⟨by kernel_rfl, fun p e => by cases e⟩
theorem e143 : CodeFact Tryz.prog cfgX rtabA 143 c143 := ⟨by kernel_rfl, fun p e => by cases e⟩
theorem e152 : CodeFact Tryz.prog cfgX rtabA 152 c152 := ⟨by kernel_rfl, fun p e => by cases e⟩
theorem e153 : CodeFact Tryz.prog cfgX rtabA 153 c153 := ⟨by kernel_rfl, fun p e => by cases e⟩
theorem e163 : CodeFact Tryz.prog cfgX rtabA 163 c163 := ⟨by kernel_rfl, fun p e => by cases e⟩
theorem e168 : CodeFact Tryz.prog cfgX rtabA 168 c168 := ⟨by kernel_rfl, fun p e => by cases e⟩
theorem e180 : CodeFact Tryz.prog cfgX rtabA 180 c180 := ⟨by kernel_rfl, fun p e => by cases e⟩
theorem e182 : CodeFact Tryz.prog cfgX rtabA 182 c182 := ⟨by kernel_rfl, fun p e => by cases e⟩
theorem e184 : CodeFact Tryz.prog cfgX rtabA 184 c184 := ⟨by kernel_rfl, fun p e => by cases e; exact q184⟩
theorem e188 : CodeFact Tryz.prog cfgX rtabA 188 c188 := ⟨by kernel_rfl, fun p e => by cases e⟩
theorem e192 : CodeFact Tryz.prog cfgX rtabA 192 c192 := ⟨by kernel_rfl, fun p e => by cases e⟩
theorem e194 : CodeFact Tryz.prog cfgX rtabA 194 c194 := ⟨by kernel_rfl, fun p e => by cases e⟩
theorem e198 : CodeFact Tryz.prog cfgX rtabA 198 c198 := ⟨by kernel_rfl, fun p e => by cases e⟩
theorem e209 : CodeFact Tryz.prog cfgX rtabA 209 c209 := ⟨by kernel_rfl, fun p e => by cases e⟩
theorem e214 : CodeFact Tryz.prog cfgX rtabA 214 c214 := ⟨by kernel_rfl, fun p e => by cases e⟩
theorem e219 : CodeFact Tryz.prog cfgX rtabA 219 c219 := ⟨by kernel_rfl, fun p e => by cases e⟩
theorem e233 : CodeFact Tryz.prog cfgX rtabA 233 c233 := ⟨by kernel_rfl, fun p e => by cases e⟩
theorem e235 : CodeFact Tryz.prog cfgX rtabA 235 c235 := ⟨by kernel_rfl, fun p e => by cases e⟩
theorem e240 : CodeFact Tryz.prog cfgX rtabA 240 c240 := ⟨by kernel_rfl, fun p e => by cases e⟩
theorem e243 : CodeFact Tryz.prog cfgX rtabA 243 c243 := ⟨by kernel_rfl, fun p e => by cases e⟩
theorem e244 : CodeFact Tryz.prog cfgX rtabA 244 c244 := ⟨by kernel_rfl, fun p e => by cases e⟩
theorem e245 : CodeFact Tryz.prog cfgX rtabA 245 c245 := ⟨by kernel_rfl, fun p e => by cases e⟩
theorem e247 : CodeFact Tryz.prog cfgX rtabA 247 c247 := ⟨by kernel_rfl, fun p e => by cases e⟩
theorem e250 : CodeFact Tryz.prog cfgX rtabA 250 c250 := ⟨by kernel_rfl, fun p e => by cases e⟩
theorem e262 : CodeFact Tryz.prog cfgX rtabA 262 c262 := ⟨by kernel_rfl, fun p e => by cases e⟩
theorem e263 : CodeFact Tryz.prog cfgX rtabA 263 c263 := ⟨by kernel_rfl, fun p e => by cases e⟩
theorem e265 : CodeFact Tryz.prog cfgX rtabA 265 c265 := ⟨by kernel_rfl, fun p e => by cases e⟩
theorem e270 : CodeFact Tryz.prog cfgX rtabA 270 c270 := ⟨by kernel_rfl, fun p e => by cases e⟩
theorem e274 : CodeFact Tryz.prog cfgX rtabA 274 c274 := ⟨by kernel_rfl, fun p e => by cases e⟩
theorem e276 : CodeFact Tryz.prog cfgX rtabA 276 c276 := ⟨by kernel_rfl, fun p e => by cases e; exact q276⟩
theorem e279 : CodeFact Tryz.prog cfgX rtabA 279 c279 := ⟨by kernel_rfl, fun p e => by cases e⟩
theorem e284 : CodeFact Tryz.prog cfgX rtabA 284 c284 := ⟨by kernel_rfl, fun p e => by cases e⟩
theorem e288 : CodeFact Tryz.prog cfgX rtabA 288 c288 := ⟨by kernel_rfl, fun p e => by cases e⟩
theorem e292 : CodeFact Tryz.prog cfgX rtabA 292 c292 := ⟨by kernel_rfl, fun p e => by cases e⟩
theorem e295 : CodeFact Tryz.prog cfgX rtabA 295 c295 := ⟨by kernel_rfl, fun p e => by cases e⟩
theorem e303 : CodeFact Tryz.prog cfgX rtabA 303 c303 := ⟨by kernel_rfl, fun p e => by cases e⟩
theorem e305 : CodeFact Tryz.prog cfgX rtabA 305 c305 := ⟨by kernel_rfl, fun p e => by cases e⟩
theorem e313 : CodeFact Tryz.prog cfgX rtabA 313 c313 := ⟨by kernel_rfl, fun p e => by cases e⟩
theorem e317 : CodeFact Tryz.prog cfgX rtabA 317 c317 := ⟨by kernel_rfl, fun p e => by cases e⟩
theorem e318 : CodeFact Tryz.prog cfgX rtabA 318 c318 := ⟨by kernel_rfl, fun p e => by cases e⟩
theorem e326 : CodeFact Tryz.prog cfgX rtabA 326 c326 := ⟨by kernel_rfl, fun p e => by cases e⟩
theorem e329 : CodeFact Tryz.prog cfgX rtabA 329 c329 := ⟨by kernel_rfl, fun p e => by cases e⟩
theorem e333 : CodeFact Tryz.prog cfgX rtabA 333 c333 := ⟨by kernel_rfl, fun p e => by cases e⟩
theorem e337 : CodeFact Tryz.prog cfgX rtabA 337 c337 := ⟨by kernel_rfl, fun p e => by cases e⟩
theorem e341 : CodeFact Tryz.prog cfgX rtabA 341 c341 := ⟨by kernel_rfl, fun p e => by cases e⟩
theorem e345 : CodeFact Tryz.prog cfgX rtabA 345 c345 := ⟨by kernel_rfl, fun p e => by cases e⟩
theorem e346 : CodeFact Tryz.prog cfgX rtabA 346 c346 := ⟨by kernel_rfl, fun p e => by cases e; exact q346⟩
theorem e349 : CodeFact Tryz.prog cfgX rtabA 349 c349 := ⟨by kernel_rfl, fun p e => by cases e⟩
theorem e371 : CodeFact Tryz.prog cfgX rtabA 371 c371 := ⟨by kernel_rfl, fun p e => by cases e⟩
theorem e381 : CodeFact Tryz.prog cfgX rtabA 381 c381 := ⟨by kernel_rfl, fun p e => by cases e; exact q381⟩
theorem e393 : CodeFact Tryz.prog cfgX rtabA 393 c393 := ⟨by kernel_rfl, fun p e => by cases e⟩
theorem e401 : CodeFact Tryz.prog cfgX rtabA 401 c401 := ⟨by kernel_rfl, fun p e => by cases e⟩
end Am
