/- The abstract machine's code of functions is made of the program's (part 2). -/
import Derived.Test.YtgklpnendmhbjaaGreatDoorProg
import Derived.Test.YtgklpnendmhbjaaGreatDoorC
import Derived.Test.YtgklpnendmhbjaaGreatDoorA5
import Derived.Test.YtgklpnendmhbjaaGreatDoorB
import Derived.KernelRfl
set_option linter.unusedSimpArgs false
set_option linter.unusedVariables false
set_option linter.unusedSectionVars false
set_option linter.unnecessarySimpa false
open Go Am Go.Proofs Go.RowKit
set_option maxRecDepth 100000
set_option maxHeartbeats 1000000
namespace Am
theorem e3 : CodeFact Tryz.prog cfgX rtabA 3 c3 := ⟨by kernel_rfl, fun p e => by cases e⟩
theorem e4 : CodeFact Tryz.prog cfgX rtabA 4 c4 := ⟨by kernel_rfl, fun p e => by cases e⟩
theorem e10 : CodeFact Tryz.prog cfgX rtabA 10 c10 := ⟨by kernel_rfl, fun p e => by cases e⟩
theorem e11 : CodeFact Tryz.prog cfgX rtabA 11 c11 := ⟨by kernel_rfl, fun p e => by cases e⟩
theorem e20 : CodeFact Tryz.prog cfgX rtabA 20 c20 := ⟨by kernel_rfl, fun p e => by cases e⟩
theorem e21 : CodeFact Tryz.prog cfgX rtabA 21 c21 := ⟨by kernel_rfl, fun p e => by cases e⟩
theorem e25 : CodeFact Tryz.prog cfgX rtabA 25 c25 := ⟨by kernel_rfl, fun p e => by cases e⟩
theorem e30 : CodeFact Tryz.prog cfgX rtabA 30 c30 := ⟨by kernel_rfl, fun p e => by cases e⟩
theorem e33 : CodeFact Tryz.prog cfgX rtabA 33 c33 := ⟨by kernel_rfl, fun p e => by cases e⟩
theorem e37 : CodeFact Tryz.prog cfgX rtabA 37 c37 := ⟨by kernel_rfl, fun p e => by cases e⟩
theorem e39 : CodeFact Tryz.prog cfgX rtabA 39 c39 := ⟨by kernel_rfl, fun p e => by cases e⟩
theorem e40 : CodeFact Tryz.prog cfgX rtabA 40 c40 := ⟨by kernel_rfl, fun p e => by cases e⟩
theorem e42 : CodeFact Tryz.prog cfgX rtabA 42 c42 := ⟨by kernel_rfl, fun p e => by cases e⟩
theorem e43 : CodeFact Tryz.prog cfgX rtabA 43 c43 := ⟨by kernel_rfl, fun p e => by cases e⟩
theorem e45 : CodeFact Tryz.prog cfgX rtabA 45 c45 := ⟨by kernel_rfl, fun p e => by cases e⟩
theorem e46 : CodeFact Tryz.prog cfgX rtabA 46 c46 := ⟨by kernel_rfl, fun p e => by cases e⟩
theorem e51 : CodeFact Tryz.prog cfgX rtabA 51 c51 := ⟨by kernel_rfl, fun p e => by cases e⟩
theorem e63 : CodeFact Tryz.prog cfgX rtabA 63 c63 := ⟨by kernel_rfl, fun p e => by cases e⟩
theorem e68 : CodeFact Tryz.prog cfgX rtabA 68 c68 := ⟨by kernel_rfl, fun p e => by cases e⟩
theorem e69 : CodeFact Tryz.prog cfgX rtabA 69 c69 := ⟨by kernel_rfl, fun p e => by cases e⟩
theorem e73 : CodeFact Tryz.prog cfgX rtabA 73 c73 := ⟨by kernel_rfl, fun p e => by cases e⟩
theorem e75 : CodeFact Tryz.prog cfgX rtabA 75 c75 := ⟨by kernel_rfl, fun p e => by cases e⟩
theorem e90 : CodeFact Tryz.prog cfgX rtabA 90 c90 := ⟨by kernel_rfl, fun p e => by cases e⟩
theorem e96 : CodeFact Tryz.prog cfgX rtabA 96 c96 := ⟨by kernel_rfl, fun p e => by cases e⟩
theorem e99 : CodeFact Tryz.prog cfgX rtabA 99 c99 := ⟨by kernel_rfl, fun p e => by cases e⟩
theorem e103 : CodeFact Tryz.prog cfgX rtabA 103 c103 := ⟨by kernel_rfl, fun p e => by cases e⟩
theorem e104 : CodeFact Tryz.prog cfgX rtabA 104 c104 := ⟨by kernel_rfl, fun p e => by cases e⟩
theorem e109 : CodeFact Tryz.prog cfgX rtabA 109 c109 := ⟨by kernel_rfl, fun p e => by cases e⟩
theorem e121 : CodeFact Tryz.prog cfgX rtabA 121 c121 := ⟨by kernel_rfl, fun p e => by cases e; exact q121⟩
theorem e126 : CodeFact Tryz.prog cfgX rtabA 126 c126 := ⟨by kernel_rfl, fun p e => by cases e⟩
theorem e128 : CodeFact Tryz.prog cfgX rtabA 128 c128 := ⟨by kernel_rfl, fun p e => by cases e⟩
theorem e132 : CodeFact Tryz.prog cfgX rtabA 132 c132 := ⟨by kernel_rfl, fun p e => by cases e⟩
theorem e134 : CodeFact Tryz.prog cfgX rtabA 134 c134 := ⟨by kernel_rfl, fun p e => by cases e⟩
theorem e135 : CodeFact Tryz.prog cfgX rtabA 135 c135 := ⟨by kernel_rfl, fun p e => by cases e⟩
theorem e137 : CodeFact Tryz.prog cfgX rtabA 137 c137 := ⟨by kernel_rfl, fun p e => by cases e⟩
theorem e140 : CodeFact Tryz.prog cfgX rtabA 140 c140 := ⟨by kernel_rfl, fun p e => by cases e⟩
theorem e146 : CodeFact Tryz.prog cfgX rtabA 146 c146 := ⟨by kernel_rfl, fun p e => by cases e⟩
theorem e147 : CodeFact Tryz.prog cfgX rtabA 147 c147 := ⟨by kernel_rfl, fun p e => by cases e⟩
theorem e148 : CodeFact Tryz.prog cfgX rtabA 148 c148 := ⟨by kernel_rfl, fun p e => by cases e⟩
theorem e149 : CodeFact Tryz.prog cfgX rtabA 149 c149 := ⟨by kernel_rfl, fun p e => by cases e⟩
theorem e156 : CodeFact Tryz.prog cfgX rtabA 156 c156 := ⟨by kernel_rfl, fun p e => by cases e⟩
theorem e161 : CodeFact Tryz.prog cfgX rtabA 161 c161 := ⟨by kernel_rfl, fun p e => by cases e⟩
theorem e164 : CodeFact Tryz.prog cfgX rtabA 164 c164 := ⟨by kernel_rfl, fun p e => by cases e⟩
theorem e172 : CodeFact Tryz.prog cfgX rtabA 172 c172 := ⟨by kernel_rfl, fun p e => by cases e⟩
theorem e174 : CodeFact Tryz.prog cfgX rtabA 174 c174 := ⟨by kernel_rfl, fun p e => by cases e⟩
theorem e175 : CodeFact Tryz.prog cfgX rtabA 175 c175 := ⟨by kernel_rfl, fun p e => by cases e⟩
theorem e177 : CodeFact Tryz.prog cfgX rtabA 177 c177 := ⟨by kernel_rfl, fun p e => by cases e; exact q177⟩
theorem e179 : CodeFact Tryz.prog cfgX rtabA 179 c179 := ⟨by kernel_rfl, fun p e => by cases e⟩
theorem e187 : CodeFact Tryz.prog cfgX rtabA 187 c187 := ⟨by kernel_rfl, fun p e => by cases e⟩
theorem e189 : CodeFact Tryz.prog cfgX rtabA 189 c189 := ⟨by kernel_rfl, fun p e => by cases e⟩
theorem e195 : CodeFact Tryz.prog cfgX rtabA 195 c195 := ⟨by kernel_rfl, fun p e => by cases e⟩
theorem e199 : CodeFact Tryz.prog cfgX rtabA 199 c199 := ⟨by kernel_rfl, fun p e => by cases e⟩
theorem e203 : CodeFact Tryz.prog cfgX rtabA 203 c203 := ⟨by kernel_rfl, fun p e => by cases e⟩
theorem e206 : CodeFact Tryz.prog cfgX rtabA 206 c206 := ⟨by kernel_rfl, fun p e => by cases e⟩
theorem e207 : CodeFact Tryz.prog cfgX rtabA 207 c207 := ⟨by kernel_rfl, fun p e => by cases e⟩
theorem e208 : CodeFact Tryz.prog cfgX rtabA 208 c208 := ⟨by kernel_rfl, fun p e => by cases e⟩
theorem e213 : CodeFact Tryz.prog cfgX rtabA 213 c213 := ⟨by kernel_rfl, fun p e => by cases e⟩
theorem e216 : CodeFact Tryz.prog cfgX rtabA 216 c216 := ⟨by kernel_rfl, fun p e => by cases e⟩
theorem e218 : CodeFact Tryz.prog cfgX rtabA 218 c218 := ⟨by kernel_rfl, fun p e => by cases e⟩
theorem e221 : CodeFact Tryz.prog cfgX rtabA 221 c221 := ⟨by kernel_rfl, fun p e => by cases e⟩
theorem e222 : CodeFact Tryz.prog cfgX rtabA 222 c222 := ⟨by kernel_rfl, fun p e => by cases e⟩
theorem e225 : CodeFact Tryz.prog cfgX rtabA 225 c225 := ⟨by kernel_rfl, fun p e => by cases e⟩
theorem e229 : CodeFact Tryz.prog cfgX rtabA 229 c229 := ⟨by kernel_rfl, fun p e => by cases e⟩
theorem e236 : CodeFact Tryz.prog cfgX rtabA 236 c236 := ⟨by kernel_rfl, fun p e => by cases e⟩
theorem e237 : CodeFact Tryz.prog cfgX rtabA 237 c237 := ⟨by kernel_rfl, fun p e => by cases e⟩
theorem e239 : CodeFact Tryz.prog cfgX rtabA 239 c239 := ⟨by kernel_rfl, fun p e => by cases e⟩
theorem e242 : CodeFact Tryz.prog cfgX rtabA 242 c242 := ⟨by kernel_rfl, fun p e => by cases e⟩
theorem e259 : CodeFact Tryz.prog cfgX rtabA 259 c259 := ⟨by kernel_rfl, fun p e => by cases e⟩
theorem e261 : CodeFact Tryz.prog cfgX rtabA 261 c261 := ⟨by kernel_rfl, fun p e => by cases e⟩
theorem e266 : CodeFact Tryz.prog cfgX rtabA 266 c266 := ⟨by kernel_rfl, fun p e => by cases e⟩
theorem e268 : CodeFact Tryz.prog cfgX rtabA 268 c268 := ⟨by kernel_rfl, fun p e => by cases e⟩
theorem e269 : CodeFact Tryz.prog cfgX rtabA 269 c269 := ⟨by kernel_rfl, fun p e => by cases e⟩
theorem e272 : CodeFact Tryz.prog cfgX rtabA 272 c272 := ⟨by kernel_rfl, fun p e => by cases e⟩
theorem e280 : CodeFact Tryz.prog cfgX rtabA 280 c280 := ⟨by kernel_rfl, fun p e => by cases e⟩
theorem e287 : CodeFact Tryz.prog cfgX rtabA 287 c287 := ⟨by kernel_rfl, fun p e => by cases e⟩
theorem e300 : CodeFact Tryz.prog cfgX rtabA 300 c300 := ⟨by kernel_rfl, fun p e => by cases e⟩
theorem e301 : CodeFact Tryz.prog cfgX rtabA 301 c301 := ⟨by kernel_rfl, fun p e => by cases e⟩
theorem e309 : CodeFact Tryz.prog cfgX rtabA 309 c309 := ⟨by kernel_rfl, fun p e => by cases e; exact q309⟩
theorem e322 : CodeFact Tryz.prog cfgX rtabA 322 c322 := ⟨by kernel_rfl, fun p e => by cases e⟩
theorem e339 : CodeFact Tryz.prog cfgX rtabA 339 c339 := ⟨by kernel_rfl, fun p e => by cases e⟩
theorem e340 : CodeFact Tryz.prog cfgX rtabA 340 c340 := ⟨by kernel_rfl, fun p e => by cases e⟩
theorem e342 : CodeFact Tryz.prog cfgX rtabA 342 c342 := ⟨by kernel_rfl, fun p e => by cases e⟩
theorem e344 : CodeFact Tryz.prog cfgX rtabA 344 c344 := ⟨by kernel_rfl, fun p e => by cases e⟩
theorem e350 : CodeFact Tryz.prog cfgX rtabA 350 c350 := ⟨by kernel_rfl, fun p e => by cases e⟩
theorem e373 : CodeFact Tryz.prog cfgX rtabA 373 c373 := ⟨by kernel_rfl, fun p e => by cases e⟩
theorem e379 : CodeFact Tryz.prog cfgX rtabA 379 c379 := ⟨by kernel_rfl, fun p e => by cases e; exact q379⟩
theorem e397 : CodeFact Tryz.prog cfgX rtabA 397 c397 := ⟨by kernel_rfl, fun p e => by cases e⟩
end Am
