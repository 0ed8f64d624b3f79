/- The machine's code is the program's, part 2. No condition. -/
import Derived.Test.YtlmoljejdakdbaaGreatDoorTa
import Derived.Test.YtlmoljejdakdbaaGreatDoorTb
import Derived.Test.YtlmoljejdakdbaaGreatDoorM
namespace Go.Proofs.YtlmoljejdakdbaaGreatDoor
open Go Go.Vm Go.RowKit
set_option maxRecDepth 1000000
theorem tt9 : compFn Tryz.prog (midOf mnames 0) Tryz.f9 ex9 hi9 = some cc9 := by kernel_rfl
theorem tt11 : compFn Tryz.prog (midOf mnames 0) Tryz.f11 ex11 hi11 = some cc11 := by kernel_rfl
theorem tt13 : compFn Tryz.prog (midOf mnames 0) Tryz.f13 ex13 hi13 = some cc13 := by kernel_rfl
theorem tt15 : compFn Tryz.prog (midOf mnames 0) Tryz.f15 ex15 hi15 = some cc15 := by kernel_rfl
theorem tt17 : compFn Tryz.prog (midOf mnames 0) Tryz.f17 ex17 hi17 = some cc17 := by kernel_rfl
theorem tt23 : compFn Tryz.prog (midOf mnames 0) Tryz.f23 ex23 hi23 = some cc23 := by kernel_rfl
theorem tt30 : compFn Tryz.prog (midOf mnames 0) Tryz.f30 ex30 hi30 = some cc30 := by kernel_rfl
theorem tt32 : compFn Tryz.prog (midOf mnames 0) Tryz.f32 ex32 hi32 = some cc32 := by kernel_rfl
theorem tt34 : compFn Tryz.prog (midOf mnames 0) Tryz.f34 ex34 hi34 = some cc34 := by kernel_rfl
theorem tt36 : compFn Tryz.prog (midOf mnames 0) Tryz.f36 ex36 hi36 = some cc36 := by kernel_rfl
theorem tt38 : compFn Tryz.prog (midOf mnames 0) Tryz.f38 ex38 hi38 = some cc38 := by kernel_rfl
theorem tt40 : compFn Tryz.prog (midOf mnames 0) Tryz.f40 ex40 hi40 = some cc40 := by kernel_rfl
theorem tt42 : compFn Tryz.prog (midOf mnames 0) Tryz.f42 ex42 hi42 = some cc42 := by kernel_rfl
theorem tt44 : compFn Tryz.prog (midOf mnames 0) Tryz.f44 ex44 hi44 = some cc44 := by kernel_rfl
theorem tt49 : compFn Tryz.prog (midOf mnames 0) Tryz.f49 ex49 hi49 = some cc49 := by kernel_rfl
theorem tt56 : compFn Tryz.prog (midOf mnames 0) Tryz.f56 ex56 hi56 = some cc56 := by kernel_rfl
theorem tt58 : compFn Tryz.prog (midOf mnames 0) Tryz.f58 ex58 hi58 = some cc58 := by kernel_rfl
theorem tt63 : compFn Tryz.prog (midOf mnames 0) Tryz.f63 ex63 hi63 = some cc63 := by kernel_rfl
theorem tt65 : compFn Tryz.prog (midOf mnames 0) Tryz.f65 ex65 hi65 = some cc65 := by kernel_rfl
theorem tt67 : compFn Tryz.prog (midOf mnames 0) Tryz.f67 ex67 hi67 = some cc67 := by kernel_rfl
theorem tt69 : compFn Tryz.prog (midOf mnames 0) Tryz.f69 ex69 hi69 = some cc69 := by kernel_rfl
theorem tt71 : compFn Tryz.prog (midOf mnames 0) Tryz.f71 ex71 hi71 = some cc71 := by kernel_rfl
theorem tt74 : compFn Tryz.prog (midOf mnames 0) Tryz.f74 ex74 hi74 = some cc74 := by kernel_rfl
theorem tt76 : compFn Tryz.prog (midOf mnames 0) Tryz.f76 ex76 hi76 = some cc76 := by kernel_rfl
theorem tt79 : compFn Tryz.prog (midOf mnames 0) Tryz.f79 ex79 hi79 = some cc79 := by kernel_rfl
theorem tt81 : compFn Tryz.prog (midOf mnames 0) Tryz.f81 ex81 hi81 = some cc81 := by kernel_rfl
theorem tt83 : compFn Tryz.prog (midOf mnames 0) Tryz.f83 ex83 hi83 = some cc83 := by kernel_rfl
theorem tt85 : compFn Tryz.prog (midOf mnames 0) Tryz.f85 ex85 hi85 = some cc85 := by kernel_rfl
theorem tt87 : compFn Tryz.prog (midOf mnames 0) Tryz.f87 ex87 hi87 = some cc87 := by kernel_rfl
theorem tt89 : compFn Tryz.prog (midOf mnames 0) Tryz.f89 ex89 hi89 = some cc89 := by kernel_rfl
theorem tt103 : compFn Tryz.prog (midOf mnames 0) Tryz.f103 ex103 hi103 = some cc103 := by kernel_rfl
theorem tt111 : compFn Tryz.prog (midOf mnames 0) Tryz.f111 ex111 hi111 = some cc111 := by kernel_rfl
theorem tt113 : compFn Tryz.prog (midOf mnames 0) Tryz.f113 ex113 hi113 = some cc113 := by kernel_rfl
theorem tt115 : compFn Tryz.prog (midOf mnames 0) Tryz.f115 ex115 hi115 = some cc115 := by kernel_rfl
theorem tt117 : compFn Tryz.prog (midOf mnames 0) Tryz.f117 ex117 hi117 = some cc117 := by kernel_rfl
theorem tt119 : compFn Tryz.prog (midOf mnames 0) Tryz.f119 ex119 hi119 = some cc119 := by kernel_rfl
theorem tt121 : compFn Tryz.prog (midOf mnames 0) Tryz.f121 ex121 hi121 = some cc121 := by kernel_rfl
theorem tt123 : compFn Tryz.prog (midOf mnames 0) Tryz.f123 ex123 hi123 = some cc123 := by kernel_rfl
theorem tt126 : compFn Tryz.prog (midOf mnames 0) Tryz.f126 ex126 hi126 = some cc126 := by kernel_rfl
theorem tt128 : compFn Tryz.prog (midOf mnames 0) Tryz.f128 ex128 hi128 = some cc128 := by kernel_rfl
theorem tt130 : compFn Tryz.prog (midOf mnames 0) Tryz.f130 ex130 hi130 = some cc130 := by kernel_rfl
theorem tt132 : compFn Tryz.prog (midOf mnames 0) Tryz.f132 ex132 hi132 = some cc132 := by kernel_rfl
theorem tt134 : compFn Tryz.prog (midOf mnames 0) Tryz.f134 ex134 hi134 = some cc134 := by kernel_rfl
theorem tt136 : compFn Tryz.prog (midOf mnames 0) Tryz.f136 ex136 hi136 = some cc136 := by kernel_rfl
theorem tt138 : compFn Tryz.prog (midOf mnames 0) Tryz.f138 ex138 hi138 = some cc138 := by kernel_rfl
theorem tt140 : compFn Tryz.prog (midOf mnames 0) Tryz.f140 ex140 hi140 = some cc140 := by kernel_rfl
theorem tt142 : compFn Tryz.prog (midOf mnames 0) Tryz.f142 ex142 hi142 = some cc142 := by kernel_rfl
theorem tt144 : compFn Tryz.prog (midOf mnames 0) Tryz.f144 ex144 hi144 = some cc144 := by kernel_rfl
theorem tt146 : compFn Tryz.prog (midOf mnames 0) Tryz.f146 ex146 hi146 = some cc146 := by kernel_rfl
theorem tt148 : compFn Tryz.prog (midOf mnames 0) Tryz.f148 ex148 hi148 = some cc148 := by kernel_rfl
theorem tt150 : compFn Tryz.prog (midOf mnames 0) Tryz.f150 ex150 hi150 = some cc150 := by kernel_rfl
theorem tt160 : compFn Tryz.prog (midOf mnames 0) Tryz.f160 ex160 hi160 = some cc160 := by kernel_rfl
theorem tt162 : compFn Tryz.prog (midOf mnames 0) Tryz.f162 ex162 hi162 = some cc162 := by kernel_rfl
theorem tt171 : compFn Tryz.prog (midOf mnames 0) Tryz.f171 ex171 hi171 = some cc171 := by kernel_rfl
theorem tt179 : compFn Tryz.prog (midOf mnames 0) Tryz.f179 ex179 hi179 = some cc179 := by kernel_rfl
theorem tt182 : compFn Tryz.prog (midOf mnames 0) Tryz.f182 ex182 hi182 = some cc182 := by kernel_rfl
theorem tt184 : compFn Tryz.prog (midOf mnames 0) Tryz.f184 ex184 hi184 = some cc184 := by kernel_rfl
theorem tt186 : compFn Tryz.prog (midOf mnames 0) Tryz.f186 ex186 hi186 = some cc186 := by kernel_rfl
theorem tt188 : compFn Tryz.prog (midOf mnames 0) Tryz.f188 ex188 hi188 = some cc188 := by kernel_rfl
theorem tt190 : compFn Tryz.prog (midOf mnames 0) Tryz.f190 ex190 hi190 = some cc190 := by kernel_rfl
theorem tt192 : compFn Tryz.prog (midOf mnames 0) Tryz.f192 ex192 hi192 = some cc192 := by kernel_rfl
theorem tt194 : compFn Tryz.prog (midOf mnames 0) Tryz.f194 ex194 hi194 = some cc194 := by kernel_rfl
theorem tt196 : compFn Tryz.prog (midOf mnames 0) Tryz.f196 ex196 hi196 = some cc196 := by kernel_rfl
theorem tt198 : compFn Tryz.prog (midOf mnames 0) Tryz.f198 ex198 hi198 = some cc198 := by kernel_rfl
theorem tt205 : compFn Tryz.prog (midOf mnames 0) Tryz.f205 ex205 hi205 = some cc205 := by kernel_rfl
theorem tt211 : compFn Tryz.prog (midOf mnames 0) Tryz.f211 ex211 hi211 = some cc211 := by kernel_rfl
theorem tt213 : compFn Tryz.prog (midOf mnames 0) Tryz.f213 ex213 hi213 = some cc213 := by kernel_rfl
theorem tt221 : compFn Tryz.prog (midOf mnames 0) Tryz.f221 ex221 hi221 = some cc221 := by kernel_rfl
theorem tt223 : compFn Tryz.prog (midOf mnames 0) Tryz.f223 ex223 hi223 = some cc223 := by kernel_rfl
theorem tt225 : compFn Tryz.prog (midOf mnames 0) Tryz.f225 ex225 hi225 = some cc225 := by kernel_rfl
theorem tt227 : compFn Tryz.prog (midOf mnames 0) Tryz.f227 ex227 hi227 = some cc227 := by kernel_rfl
theorem tt229 : compFn Tryz.prog (midOf mnames 0) Tryz.f229 ex229 hi229 = some cc229 := by kernel_rfl
theorem tt236 : compFn Tryz.prog (midOf mnames 0) Tryz.f236 ex236 hi236 = some cc236 := by kernel_rfl
theorem tt241 : compFn Tryz.prog (midOf mnames 0) Tryz.f241 ex241 hi241 = some cc241 := by kernel_rfl
theorem tt247 : compFn Tryz.prog (midOf mnames 0) Tryz.f247 ex247 hi247 = some cc247 := by kernel_rfl
theorem tt253 : compFn Tryz.prog (midOf mnames 0) Tryz.f253 ex253 hi253 = some cc253 := by kernel_rfl
theorem tt255 : compFn Tryz.prog (midOf mnames 0) Tryz.f255 ex255 hi255 = some cc255 := by kernel_rfl
theorem tt257 : compFn Tryz.prog (midOf mnames 0) Tryz.f257 ex257 hi257 = some cc257 := by kernel_rfl
theorem tt265 : compFn Tryz.prog (midOf mnames 0) Tryz.f265 ex265 hi265 = some cc265 := by kernel_rfl
theorem tt272 : compFn Tryz.prog (midOf mnames 0) Tryz.f272 ex272 hi272 = some cc272 := by kernel_rfl
theorem tt285 : compFn Tryz.prog (midOf mnames 0) Tryz.f285 ex285 hi285 = some cc285 := by kernel_rfl

end Go.Proofs.YtlmoljejdakdbaaGreatDoor
