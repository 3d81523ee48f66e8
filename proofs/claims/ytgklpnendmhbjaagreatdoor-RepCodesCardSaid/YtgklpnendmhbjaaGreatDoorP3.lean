/- The abstract machine's code of functions is made of the program's (part 3). -/
import Derived.Test.YtgklpnendmhbjaaGreatDoorProg
import Derived.Test.YtgklpnendmhbjaaGreatDoorC
import Derived.Test.YtgklpnendmhbjaaGreatDoorA5
import Derived.Test.YtgklpnendmhbjaaGreatDoorB
import Derived.KernelRfl
set_option linter.unusedSimpArgs false
set_option linter.unusedVariables false
set_option linter.unusedSectionVars false
set_option linter.unnecessarySimpa false
open Go Am Go.Proofs Go.RowKit
set_option maxRecDepth 100000
set_option maxHeartbeats 1000000
namespace Am
theorem e5 : CodeFact Tryz.prog cfgX rtabA 5 c5 := ⟨by kernel_rfl, fun p e => by cases e⟩
theorem e6 : CodeFact Tryz.prog cfgX rtabA 6 c6 := ⟨by kernel_rfl, fun p e => by cases e⟩
theorem e9 : CodeFact Tryz.prog cfgX rtabA 9 c9 := ⟨by kernel_rfl, fun p e => by cases e⟩
theorem e13 : CodeFact Tryz.prog cfgX rtabA 13 c13 := ⟨by kernel_rfl, fun p e => by cases e⟩
theorem e18 : CodeFact Tryz.prog cfgX rtabA 18 c18 := ⟨by kernel_rfl, fun p e => by cases e⟩
theorem e22 : CodeFact Tryz.prog cfgX rtabA 22 c22 := ⟨by kernel_rfl, fun p e => by cases e⟩
theorem e26 : CodeFact Tryz.prog cfgX rtabA 26 c26 := ⟨by kernel_rfl, fun p e => by cases e⟩
theorem e29 : CodeFact Tryz.prog cfgX rtabA 29 c29 := ⟨by kernel_rfl, fun p e => by cases e⟩
theorem e34 : CodeFact Tryz.prog cfgX rtabA 34 c34 := ⟨by kernel_rfl, fun p e => by cases e⟩
theorem e36 : CodeFact Tryz.prog cfgX rtabA 36 c36 := ⟨by kernel_rfl, fun p e => by cases e⟩
theorem e48 : CodeFact Tryz.prog cfgX rtabA 48 c48 := ⟨by kernel_rfl, fun p e => by cases e⟩
theorem e56 : CodeFact Tryz.prog cfgX rtabA 56 c56 := ⟨by kernel_rfl, fun p e => by cases e⟩
theorem e57 : CodeFact Tryz.prog cfgX rtabA 57 c57 := ⟨by kernel_rfl, fun p e => by cases e⟩
theorem e58 : CodeFact Tryz.prog cfgX rtabA 58 c58 := ⟨by kernel_rfl, fun p e => by cases e⟩
theorem e72 : CodeFact Tryz.prog cfgX rtabA 72 c72 := ⟨by kernel_rfl, fun p e => by cases e⟩
theorem e74 : CodeFact Tryz.prog cfgX rtabA 74 c74 := ⟨by kernel_rfl, fun p e => by cases e⟩
theorem e80 : CodeFact Tryz.prog cfgX rtabA 80 c80 := ⟨by kernel_rfl, fun p e => by cases e⟩
theorem e84 : CodeFact Tryz.prog cfgX rtabA 84 c84 := ⟨by kernel_rfl, fun p e => by cases e⟩
theorem e86 : CodeFact Tryz.prog cfgX rtabA 86 c86 := ⟨by kernel_rfl, fun p e => by cases e⟩
theorem e87 : CodeFact Tryz.prog cfgX rtabA 87 c87 := ⟨by kernel_rfl, fun p e => by cases e⟩
theorem e89 : CodeFact Tryz.prog cfgX rtabA 89 c89 := ⟨by kernel_rfl, fun p e => by cases e⟩
theorem e92 : CodeFact Tryz.prog cfgX rtabA 92 c92 := ⟨by kernel_rfl, fun p e => by cases e⟩
theorem e93 : CodeFact Tryz.prog cfgX rtabA 93 c93 := ⟨by kernel_rfl, fun p e => by cases e⟩
theorem e101 : CodeFact Tryz.prog cfgX rtabA 101 c101 := ⟨by kernel_rfl, fun p e => by cases e⟩
theorem e102 : CodeFact Tryz.prog cfgX rtabA 102 c102 := ⟨by kernel_rfl, fun p e => by cases e⟩
theorem e107 : CodeFact Tryz.prog cfgX rtabA 107 c107 := ⟨by kernel_rfl, fun p e => by cases e⟩
theorem e111 : CodeFact Tryz.prog cfgX rtabA 111 c111 := ⟨by kernel_rfl, fun p e => by cases e⟩
theorem e113 : CodeFact Tryz.prog cfgX rtabA 113 c113 := ⟨by kernel_rfl, fun p e => by cases e⟩
theorem e115 : CodeFact Tryz.prog cfgX rtabA 115 c115 := ⟨by kernel_rfl, fun p e => by cases e⟩
theorem e117 : CodeFact Tryz.prog cfgX rtabA 117 c117 := ⟨by kernel_rfl, fun p e => by cases e; exact q117⟩
theorem e127 : CodeFact Tryz.prog cfgX rtabA 127 c127 := ⟨by kernel_rfl, fun p e => by cases e⟩
theorem e129 : CodeFact Tryz.prog cfgX rtabA 129 c129 := ⟨by kernel_rfl, fun p e => by cases e⟩
theorem e131 : CodeFact Tryz.prog cfgX rtabA 131 c131 := ⟨by kernel_rfl, fun p e => by cases e⟩
theorem e144 : CodeFact Tryz.prog cfgX rtabA 144 c144 := ⟨by kernel_rfl, fun p e => by cases e⟩
theorem e151 : CodeFact Tryz.prog cfgX rtabA 151 c151 := ⟨by kernel_rfl, fun p e => by cases e⟩
theorem e154 : CodeFact Tryz.prog cfgX rtabA 154 c154 := ⟨by kernel_rfl, fun p e => by cases e⟩
theorem e157 : CodeFact Tryz.prog cfgX rtabA 157 c157 := ⟨by kernel_rfl, fun p e => by cases e⟩
theorem e158 : CodeFact Tryz.prog cfgX rtabA 158 c158 := ⟨by kernel_rfl, fun p e => by cases e⟩
theorem e160 : CodeFact Tryz.prog cfgX rtabA 160 c160 := ⟨by kernel_rfl, fun p e => by cases e⟩
theorem e162 : CodeFact Tryz.prog cfgX rtabA 162 c162 := ⟨by kernel_rfl, fun p e => by cases e⟩
theorem e166 : CodeFact Tryz.prog cfgX rtabA 166 c166 := ⟨by kernel_rfl, fun p e => by cases e⟩
theorem e170 : CodeFact Tryz.prog cfgX rtabA 170 c170 := ⟨by kernel_rfl, fun p e => by cases e⟩
theorem e176 : CodeFact Tryz.prog cfgX rtabA 176 c176 := ⟨by kernel_rfl, fun p e => by cases e⟩
theorem e181 : CodeFact Tryz.prog cfgX rtabA 181 c181 := ⟨by kernel_rfl, fun p e => by cases e⟩
theorem e183 : CodeFact Tryz.prog cfgX rtabA 183 c183 := ⟨by kernel_rfl, fun p e => by cases e; exact q183⟩
theorem e185 : CodeFact Tryz.prog cfgX rtabA 185 c185 := ⟨by kernel_rfl, fun p e => by cases e⟩
theorem e191 : CodeFact Tryz.prog cfgX rtabA 191 c191 := ⟨by kernel_rfl, fun p e => by cases e⟩
theorem e193 : CodeFact Tryz.prog cfgX rtabA 193 c193 := ⟨by kernel_rfl, fun p e => by cases e⟩
theorem e196 : CodeFact Tryz.prog cfgX rtabA 196 c196 := ⟨by kernel_rfl, fun p e => by cases e; exact q196⟩
theorem e197 : CodeFact Tryz.prog cfgX rtabA 197 c197 := ⟨by kernel_rfl, fun p e => by cases e⟩
theorem e202 : CodeFact Tryz.prog cfgX rtabA 202 c202 := ⟨by kernel_rfl, fun p e => by cases e⟩
theorem e204 : CodeFact Tryz.prog cfgX rtabA 204 c204 := ⟨by kernel_rfl, fun p e => by cases e⟩
theorem e205 : CodeFact Tryz.prog cfgX rtabA 205 c205 := ⟨by kernel_rfl, fun p e => by cases e⟩
theorem e217 : CodeFact Tryz.prog cfgX rtabA 217 c217 := ⟨by kernel_rfl, fun p e => by cases e⟩
theorem e226 : CodeFact Tryz.prog cfgX rtabA 226 c226 := ⟨by kernel_rfl, fun p e => by cases e⟩
theorem e230 : CodeFact Tryz.prog cfgX rtabA 230 c230 := ⟨by kernel_rfl, fun p e => by cases e⟩
theorem e231 : CodeFact Tryz.prog cfgX rtabA 231 c231 := ⟨by kernel_rfl, fun p e => by cases e⟩
theorem e232 : CodeFact Tryz.prog cfgX rtabA 232 c232 := ⟨by kernel_rfl, fun p e => by cases e⟩
theorem e238 : CodeFact Tryz.prog cfgX rtabA 238 c238 := ⟨by kernel_rfl, fun p e => by cases e⟩
theorem e249 : CodeFact Tryz.prog cfgX rtabA 249 c249 := ⟨by kernel_rfl, fun p e => by cases e⟩
theorem e251 : CodeFact Tryz.prog cfgX rtabA 251 c251 := ⟨by kernel_rfl, fun p e => by cases e⟩
theorem e252 : CodeFact Tryz.prog cfgX rtabA 252 c252 := ⟨by kernel_rfl, fun p e => by cases e⟩
theorem e254 : CodeFact Tryz.prog cfgX rtabA 254 c254 := ⟨by kernel_rfl, fun p e => by cases e⟩
theorem e264 : CodeFact Tryz.prog cfgX rtabA 264 c264 := ⟨by kernel_rfl, fun p e => by cases e⟩
theorem e267 : CodeFact Tryz.prog cfgX rtabA 267 c267 := ⟨by kernel_rfl, fun p e => by cases e⟩
theorem e273 : CodeFact Tryz.prog cfgX rtabA 273 c273 := ⟨by kernel_rfl, fun p e => by cases e⟩
theorem e282 : CodeFact Tryz.prog cfgX rtabA 282 c282 := ⟨by kernel_rfl, fun p e => by cases e⟩
theorem e283 : CodeFact Tryz.prog cfgX rtabA 283 c283 := ⟨by kernel_rfl, fun p e => by cases e⟩
theorem e286 : CodeFact Tryz.prog cfgX rtabA 286 c286 := ⟨by kernel_rfl, fun p e => by cases e⟩
theorem e291 : CodeFact Tryz.prog cfgX rtabA 291 c291 := ⟨by kernel_rfl, fun p e => by cases e⟩
theorem e293 : CodeFact Tryz.prog cfgX rtabA 293 c293 := ⟨by kernel_rfl, fun p e => by cases e⟩
theorem e297 : CodeFact Tryz.prog cfgX rtabA 297 c297 := ⟨by kernel_rfl, fun p e => by cases e⟩
theorem e298 : CodeFact Tryz.prog cfgX rtabA 298 c298 := ⟨by kernel_rfl, fun p e => by cases e⟩
theorem e299 : CodeFact Tryz.prog cfgX rtabA 299 c299 := ⟨by kernel_rfl, fun p e => by cases e⟩
theorem e302 : CodeFact Tryz.prog cfgX rtabA 302 c302 := ⟨by kernel_rfl, fun p e => by cases e⟩
theorem e310 : CodeFact Tryz.prog cfgX rtabA 310 c310 := ⟨by kernel_rfl, fun p e => by cases e⟩
theorem e311 : CodeFact Tryz.prog cfgX rtabA 311 c311 := ⟨by kernel_rfl, fun p e => by cases e; exact q311⟩
theorem e316 : CodeFact Tryz.prog cfgX rtabA 316 c316 := ⟨by kernel_rfl, fun p e => by cases e⟩
theorem e321 : CodeFact Tryz.prog cfgX rtabA 321 c321 := ⟨by kernel_rfl, fun p e => by cases e⟩
theorem e323 : CodeFact Tryz.prog cfgX rtabA 323 c323 := ⟨by kernel_rfl, fun p e => by cases e⟩
theorem e330 : CodeFact Tryz.prog cfgX rtabA 330 c330 := ⟨by kernel_rfl, fun p e => by cases e⟩
theorem e332 : CodeFact Tryz.prog cfgX rtabA 332 c332 := ⟨by kernel_rfl, fun p e => by cases e⟩
theorem e334 : CodeFact Tryz.prog cfgX rtabA 334 c334 := ⟨by kernel_rfl, fun p e => by cases e⟩
theorem e347 : CodeFact Tryz.prog cfgX rtabA 347 c347 := ⟨by kernel_rfl, fun p e => by cases e⟩
theorem e348 : CodeFact Tryz.prog cfgX rtabA 348 c348 := ⟨by kernel_rfl, fun p e => by cases e⟩
theorem e380 : CodeFact Tryz.prog cfgX rtabA 380 c380 := ⟨by kernel_rfl, fun p e => by cases e; exact q380⟩
theorem e390 : CodeFact Tryz.prog cfgX rtabA 390 c390 := ⟨by kernel_rfl, fun p e => by cases e⟩
theorem e395 : CodeFact Tryz.prog cfgX rtabA 395 c395 := ⟨by kernel_rfl, fun p e => by cases e⟩
theorem e403 : CodeFact Tryz.prog cfgX rtabA 403 c403 := ⟨by kernel_rfl, fun p e => by cases e⟩
end Am
