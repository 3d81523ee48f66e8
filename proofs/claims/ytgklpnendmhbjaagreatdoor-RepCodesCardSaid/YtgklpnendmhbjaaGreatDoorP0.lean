/- The abstract machine's code of functions is made of the program's (part 0). -/
import Derived.Test.YtgklpnendmhbjaaGreatDoorProg
import Derived.Test.YtgklpnendmhbjaaGreatDoorC
import Derived.Test.YtgklpnendmhbjaaGreatDoorA5
import Derived.Test.YtgklpnendmhbjaaGreatDoorB
import Derived.KernelRfl
set_option linter.unusedSimpArgs false
set_option linter.unusedVariables false
set_option linter.unusedSectionVars false
set_option linter.unnecessarySimpa false
open Go Am Go.Proofs Go.RowKit
set_option maxRecDepth 100000
set_option maxHeartbeats 1000000
namespace Am
theorem e7 : CodeFact Tryz.prog cfgX rtabA 7 c7 := ⟨by kernel_rfl, fun p e => by cases e⟩
theorem e12 : CodeFact Tryz.prog cfgX rtabA 12 c12 := ⟨by kernel_rfl, fun p e => by cases e⟩
theorem e16 : CodeFact Tryz.prog cfgX rtabA 16 c16 := ⟨by kernel_rfl, fun p e => by cases e⟩
theorem e17 : CodeFact Tryz.prog cfgX rtabA 17 c17 := ⟨by kernel_rfl, fun p e => by cases e⟩
theorem e23 : CodeFact Tryz.prog cfgX rtabA 23 c23 := ⟨by kernel_rfl, fun p e => by cases e⟩
theorem e24 : CodeFact Tryz.prog cfgX rtabA 24 c24 := ⟨by kernel_rfl, fun p e => by cases e⟩
theorem e27 : CodeFact Tryz.prog cfgX rtabA 27 c27 := ⟨by kernel_rfl, fun p e => by cases e⟩
theorem e31 : CodeFact Tryz.prog cfgX rtabA 31 c31 := ⟨by kernel_rfl, fun p e => by cases e⟩
theorem e35 : CodeFact Tryz.prog cfgX rtabA 35 c35 := ⟨by kernel_rfl, fun p e => by cases e⟩
theorem e38 : CodeFact Tryz.prog cfgX rtabA 38 c38 := ⟨by kernel_rfl, fun p e => by cases e⟩
theorem e44 : CodeFact Tryz.prog cfgX rtabA 44 c44 := ⟨by kernel_rfl, fun p e => by cases e⟩
theorem e52 : CodeFact Tryz.prog cfgX rtabA 52 c52 := ⟨by kernel_rfl, fun p e => by cases e⟩
theorem e54 : CodeFact Tryz.prog cfgX rtabA 54 c54 := ⟨by kernel_rfl, fun p e => by cases e⟩
theorem e55 : CodeFact Tryz.prog cfgX rtabA 55 c55 := ⟨by kernel_rfl, fun p e => by cases e⟩
theorem e61 : CodeFact Tryz.prog cfgX rtabA 61 c61 := ⟨by kernel_rfl, fun p e => by cases e⟩
theorem e62 : CodeFact Tryz.prog cfgX rtabA 62 c62 := ⟨by kernel_rfl, fun p e => by cases e⟩
theorem e65 : CodeFact Tryz.prog cfgX rtabA 65 c65 := ⟨by kernel_rfl, fun p e => by cases e⟩
theorem e66 : CodeFact Tryz.prog cfgX rtabA 66 c66 := ⟨by kernel_rfl, fun p e => by cases e⟩
theorem e67 : CodeFact Tryz.prog cfgX rtabA 67 c67 := ⟨by kernel_rfl, fun p e => by cases e⟩
theorem e71 : CodeFact Tryz.prog cfgX rtabA 71 c71 := ⟨by kernel_rfl, fun p e => by cases e⟩
theorem e76 : CodeFact Tryz.prog cfgX rtabA 76 c76 := ⟨by kernel_rfl, fun p e => by cases e⟩
theorem e79 : CodeFact Tryz.prog cfgX rtabA 79 c79 := ⟨by kernel_rfl, fun p e => by cases e⟩
theorem e81 : CodeFact Tryz.prog cfgX rtabA 81 c81 := ⟨by kernel_rfl, fun p e => by cases e⟩
theorem e82 : CodeFact Tryz.prog cfgX rtabA 82 c82 := ⟨by kernel_rfl, fun p e => by cases e⟩
theorem e85 : CodeFact Tryz.prog cfgX rtabA 85 c85 := ⟨by kernel_rfl, fun p e => by cases e⟩
theorem e95 : CodeFact Tryz.prog cfgX rtabA 95 c95 := ⟨by kernel_rfl, fun p e => by cases e⟩
theorem e98 : CodeFact Tryz.prog cfgX rtabA 98 c98 := ⟨by kernel_rfl, fun p e => by cases e⟩
theorem e100 : CodeFact Tryz.prog cfgX rtabA 100 c100 := ⟨by kernel_rfl, fun p e => by cases e⟩
theorem e112 : CodeFact Tryz.prog cfgX rtabA 112 c112 := ⟨by kernel_rfl, fun p e => by cases e⟩
theorem e114 : CodeFact Tryz.prog cfgX rtabA 114 c114 := ⟨by kernel_rfl, fun p e => by cases e⟩
theorem e119 : CodeFact Tryz.prog cfgX rtabA 119 c119 := ⟨by kernel_rfl, fun p e => by cases e; exact q119⟩
theorem e120 : CodeFact Tryz.prog cfgX rtabA 120 c120 := ⟨by kernel_rfl, fun p e => by cases e⟩
theorem e123 : CodeFact Tryz.prog cfgX rtabA 123 c123 := ⟨by kernel_rfl, fun p e => by cases e⟩
theorem e136 : CodeFact Tryz.prog cfgX rtabA 136 c136 := ⟨by kernel_rfl, fun p e => by cases e⟩
theorem e142 : CodeFact Tryz.prog cfgX rtabA 142 c142 := ⟨by kernel_rfl, fun p e => by cases e⟩
theorem e145 : CodeFact Tryz.prog cfgX rtabA 145 c145 := ⟨by kernel_rfl, fun p e => by cases e⟩
theorem e150 : CodeFact Tryz.prog cfgX rtabA 150 c150 := ⟨by kernel_rfl, fun p e => by cases e⟩
theorem e155 : CodeFact Tryz.prog cfgX rtabA 155 c155 := ⟨by kernel_rfl, fun p e => by cases e⟩
theorem e159 : CodeFact Tryz.prog cfgX rtabA 159 c159 := ⟨by kernel_rfl, fun p e => by cases e⟩
theorem e165 : CodeFact Tryz.prog cfgX rtabA 165 c165 := ⟨by kernel_rfl, fun p e => by cases e⟩
theorem e167 : CodeFact Tryz.prog cfgX rtabA 167 c167 := ⟨by kernel_rfl, fun p e => by cases e⟩
theorem e169 : CodeFact Tryz.prog cfgX rtabA 169 c169 := ⟨by kernel_rfl, fun p e => by cases e⟩
theorem e171 : CodeFact Tryz.prog cfgX rtabA 171 c171 := ⟨by kernel_rfl, fun p e => by cases e⟩
theorem e173 : CodeFact Tryz.prog cfgX rtabA 173 c173 := ⟨by kernel_rfl, fun p e => by cases e⟩
theorem e178 : CodeFact Tryz.prog cfgX rtabA 178 c178 := ⟨by kernel_rfl, fun p e => by cases e⟩
theorem e186 : CodeFact Tryz.prog cfgX rtabA 186 c186 := ⟨by kernel_rfl, fun p e => by cases e⟩
theorem e190 : CodeFact Tryz.prog cfgX rtabA 190 c190 := ⟨by kernel_rfl, fun p e => by cases e⟩
theorem e200 : CodeFact Tryz.prog cfgX rtabA 200 c200 := ⟨by kernel_rfl, fun p e => by cases e⟩
theorem e201 : CodeFact Tryz.prog cfgX rtabA 201 c201 := ⟨by kernel_rfl, fun p e => by cases e⟩
theorem e210 : CodeFact Tryz.prog cfgX rtabA 210 c210 := ⟨by kernel_rfl, fun p e => by cases e⟩
theorem e211 : CodeFact Tryz.prog cfgX rtabA 211 c211 := ⟨by kernel_rfl, fun p e => by cases e⟩
theorem e212 : CodeFact Tryz.prog cfgX rtabA 212 c212 := ⟨by kernel_rfl, fun p e => by cases e⟩
theorem e215 : CodeFact Tryz.prog cfgX rtabA 215 c215 := ⟨by kernel_rfl, fun p e => by cases e⟩
theorem e220 : CodeFact Tryz.prog cfgX rtabA 220 c220 := ⟨by kernel_rfl, fun p e => by cases e⟩
theorem e223 : CodeFact Tryz.prog cfgX rtabA 223 c223 := ⟨by kernel_rfl, fun p e => by cases e⟩
theorem e224 : CodeFact Tryz.prog cfgX rtabA 224 c224 := ⟨by kernel_rfl, fun p e => by cases e⟩
theorem e227 : CodeFact Tryz.prog cfgX rtabA 227 c227 := ⟨by kernel_rfl, fun p e => by cases e⟩
theorem e234 : CodeFact Tryz.prog cfgX rtabA 234 c234 := ⟨by kernel_rfl, fun p e => by cases e⟩
theorem e241 : CodeFact Tryz.prog cfgX rtabA 241 c241 := ⟨by kernel_rfl, fun p e => by cases e⟩
theorem e246 : CodeFact Tryz.prog cfgX rtabA 246 c246 := ⟨by kernel_rfl, fun p e => by cases e⟩
theorem e248 : CodeFact Tryz.prog cfgX rtabA 248 c248 := ⟨by kernel_rfl, fun p e => by cases e⟩
theorem e253 : CodeFact Tryz.prog cfgX rtabA 253 c253 := ⟨by kernel_rfl, fun p e => by cases e⟩
theorem e256 : CodeFact Tryz.prog cfgX rtabA 256 c256 := ⟨by kernel_rfl, fun p e => by cases e⟩
theorem e257 : CodeFact Tryz.prog cfgX rtabA 257 c257 := ⟨by kernel_rfl, fun p e => by cases e⟩
theorem e258 : CodeFact Tryz.prog cfgX rtabA 258 c258 := ⟨by kernel_rfl, fun p e => by cases e⟩
theorem e260 : CodeFact Tryz.prog cfgX rtabA 260 c260 := ⟨by kernel_rfl, fun p e => by cases e⟩
theorem e271 : CodeFact Tryz.prog cfgX rtabA 271 c271 := ⟨by kernel_rfl, fun p e => by cases e⟩
theorem e275 : CodeFact Tryz.prog cfgX rtabA 275 c275 := ⟨by kernel_rfl, fun p e => by cases e⟩
theorem e278 : CodeFact Tryz.prog cfgX rtabA 278 c278 := ⟨by kernel_rfl, fun p e => by cases e⟩
theorem e281 : CodeFact Tryz.prog cfgX rtabA 281 c281 := ⟨by kernel_rfl, fun p e => by cases e; exact q281⟩
theorem e285 : CodeFact Tryz.prog cfgX rtabA 285 c285 := ⟨by kernel_rfl, fun p e => by cases e⟩
theorem e294 : CodeFact Tryz.prog cfgX rtabA 294 c294 := ⟨by kernel_rfl, fun p e => by cases e⟩
theorem e296 : CodeFact Tryz.prog cfgX rtabA 296 c296 := ⟨by kernel_rfl, fun p e => by cases e⟩
theorem e304 : CodeFact Tryz.prog cfgX rtabA 304 c304 := ⟨by kernel_rfl, fun p e => by cases e⟩
theorem e308 : CodeFact Tryz.prog cfgX rtabA 308 c308 := ⟨by kernel_rfl, fun p e => by cases e⟩
theorem e312 : CodeFact Tryz.prog cfgX rtabA 312 c312 := ⟨by kernel_rfl, fun p e => by cases e⟩
theorem e319 : CodeFact Tryz.prog cfgX rtabA 319 c319 := ⟨by kernel_rfl, fun p e => by cases e⟩
theorem e320 : CodeFact Tryz.prog cfgX rtabA 320 c320 := ⟨by kernel_rfl, fun p e => by cases e⟩
theorem e331 : CodeFact Tryz.prog cfgX rtabA 331 c331 := ⟨by kernel_rfl, fun p e => by cases e⟩
theorem e338 : CodeFact Tryz.prog cfgX rtabA 338 c338 := ⟨by kernel_rfl, fun p e => by cases e⟩
theorem e343 : CodeFact Tryz.prog cfgX rtabA 343 c343 := ⟨by kernel_rfl, fun p e => by cases e⟩
theorem e365 : CodeFact Tryz.prog cfgX rtabA 365 c365 := ⟨by kernel_rfl, fun p e => by cases e; exact q365⟩
theorem e369 : CodeFact Tryz.prog cfgX rtabA 369 c369 := ⟨by kernel_rfl, fun p e => by cases e⟩
theorem e382 : CodeFact Tryz.prog cfgX rtabA 382 c382 := ⟨by kernel_rfl, fun p e => by cases e; exact q382⟩
theorem e399 : CodeFact Tryz.prog cfgX rtabA 399 c399 := ⟨by kernel_rfl, fun p e => by cases e⟩
theorem e405 : CodeFact Tryz.prog cfgX rtabA 405 c405 := ⟨by kernel_rfl, fun p e => by cases e⟩
end Am
