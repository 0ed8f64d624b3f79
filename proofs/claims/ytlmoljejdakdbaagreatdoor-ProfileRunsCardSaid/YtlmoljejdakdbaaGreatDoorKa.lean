/- The machine's code is the program's, part 1. No condition. -/
import Derived.Test.YtlmoljejdakdbaaGreatDoorTa
import Derived.Test.YtlmoljejdakdbaaGreatDoorTb
import Derived.Test.YtlmoljejdakdbaaGreatDoorM
namespace Go.Proofs.YtlmoljejdakdbaaGreatDoor
open Go Go.Vm Go.RowKit
set_option maxRecDepth 1000000
theorem tt3 : compFn Tryz.prog (midOf mnames 0) Tryz.f3 ex3 hi3 = some cc3 := by kernel_rfl
theorem tt10 : compFn Tryz.prog (midOf mnames 0) Tryz.f10 ex10 hi10 = some cc10 := by kernel_rfl
theorem tt12 : compFn Tryz.prog (midOf mnames 0) Tryz.f12 ex12 hi12 = some cc12 := by kernel_rfl
theorem tt14 : compFn Tryz.prog (midOf mnames 0) Tryz.f14 ex14 hi14 = some cc14 := by kernel_rfl
theorem tt16 : compFn Tryz.prog (midOf mnames 0) Tryz.f16 ex16 hi16 = some cc16 := by kernel_rfl
theorem tt18 : compFn Tryz.prog (midOf mnames 0) Tryz.f18 ex18 hi18 = some cc18 := by kernel_rfl
theorem tt28 : compFn Tryz.prog (midOf mnames 0) Tryz.f28 ex28 hi28 = some cc28 := by kernel_rfl
theorem tt31 : compFn Tryz.prog (midOf mnames 0) Tryz.f31 ex31 hi31 = some cc31 := by kernel_rfl
theorem tt33 : compFn Tryz.prog (midOf mnames 0) Tryz.f33 ex33 hi33 = some cc33 := by kernel_rfl
theorem tt35 : compFn Tryz.prog (midOf mnames 0) Tryz.f35 ex35 hi35 = some cc35 := by kernel_rfl
theorem tt37 : compFn Tryz.prog (midOf mnames 0) Tryz.f37 ex37 hi37 = some cc37 := by kernel_rfl
theorem tt39 : compFn Tryz.prog (midOf mnames 0) Tryz.f39 ex39 hi39 = some cc39 := by kernel_rfl
theorem tt41 : compFn Tryz.prog (midOf mnames 0) Tryz.f41 ex41 hi41 = some cc41 := by kernel_rfl
theorem tt43 : compFn Tryz.prog (midOf mnames 0) Tryz.f43 ex43 hi43 = some cc43 := by kernel_rfl
theorem tt45 : compFn Tryz.prog (midOf mnames 0) Tryz.f45 ex45 hi45 = some cc45 := by kernel_rfl
theorem tt50 : compFn Tryz.prog (midOf mnames 0) Tryz.f50 ex50 hi50 = some cc50 := by kernel_rfl
theorem tt57 : compFn Tryz.prog (midOf mnames 0) Tryz.f57 ex57 hi57 = some cc57 := by kernel_rfl
theorem tt62 : compFn Tryz.prog (midOf mnames 0) Tryz.f62 ex62 hi62 = some cc62 := by kernel_rfl
theorem tt64 : compFn Tryz.prog (midOf mnames 0) Tryz.f64 ex64 hi64 = some cc64 := by kernel_rfl
theorem tt66 : compFn Tryz.prog (midOf mnames 0) Tryz.f66 ex66 hi66 = some cc66 := by kernel_rfl
theorem tt68 : compFn Tryz.prog (midOf mnames 0) Tryz.f68 ex68 hi68 = some cc68 := by kernel_rfl
theorem tt70 : compFn Tryz.prog (midOf mnames 0) Tryz.f70 ex70 hi70 = some cc70 := by kernel_rfl
theorem tt73 : compFn Tryz.prog (midOf mnames 0) Tryz.f73 ex73 hi73 = some cc73 := by kernel_rfl
theorem tt75 : compFn Tryz.prog (midOf mnames 0) Tryz.f75 ex75 hi75 = some cc75 := by kernel_rfl
theorem tt78 : compFn Tryz.prog (midOf mnames 0) Tryz.f78 ex78 hi78 = some cc78 := by kernel_rfl
theorem tt80 : compFn Tryz.prog (midOf mnames 0) Tryz.f80 ex80 hi80 = some cc80 := by kernel_rfl
theorem tt82 : compFn Tryz.prog (midOf mnames 0) Tryz.f82 ex82 hi82 = some cc82 := by kernel_rfl
theorem tt84 : compFn Tryz.prog (midOf mnames 0) Tryz.f84 ex84 hi84 = some cc84 := by kernel_rfl
theorem tt86 : compFn Tryz.prog (midOf mnames 0) Tryz.f86 ex86 hi86 = some cc86 := by kernel_rfl
theorem tt88 : compFn Tryz.prog (midOf mnames 0) Tryz.f88 ex88 hi88 = some cc88 := by kernel_rfl
theorem tt90 : compFn Tryz.prog (midOf mnames 0) Tryz.f90 ex90 hi90 = some cc90 := by kernel_rfl
theorem tt104 : compFn Tryz.prog (midOf mnames 0) Tryz.f104 ex104 hi104 = some cc104 := by kernel_rfl
theorem tt112 : compFn Tryz.prog (midOf mnames 0) Tryz.f112 ex112 hi112 = some cc112 := by kernel_rfl
theorem tt114 : compFn Tryz.prog (midOf mnames 0) Tryz.f114 ex114 hi114 = some cc114 := by kernel_rfl
theorem tt116 : compFn Tryz.prog (midOf mnames 0) Tryz.f116 ex116 hi116 = some cc116 := by kernel_rfl
theorem tt118 : compFn Tryz.prog (midOf mnames 0) Tryz.f118 ex118 hi118 = some cc118 := by kernel_rfl
theorem tt120 : compFn Tryz.prog (midOf mnames 0) Tryz.f120 ex120 hi120 = some cc120 := by kernel_rfl
theorem tt122 : compFn Tryz.prog (midOf mnames 0) Tryz.f122 ex122 hi122 = some cc122 := by kernel_rfl
theorem tt124 : compFn Tryz.prog (midOf mnames 0) Tryz.f124 ex124 hi124 = some cc124 := by kernel_rfl
theorem tt127 : compFn Tryz.prog (midOf mnames 0) Tryz.f127 ex127 hi127 = some cc127 := by kernel_rfl
theorem tt129 : compFn Tryz.prog (midOf mnames 0) Tryz.f129 ex129 hi129 = some cc129 := by kernel_rfl
theorem tt131 : compFn Tryz.prog (midOf mnames 0) Tryz.f131 ex131 hi131 = some cc131 := by kernel_rfl
theorem tt133 : compFn Tryz.prog (midOf mnames 0) Tryz.f133 ex133 hi133 = some cc133 := by kernel_rfl
theorem tt135 : compFn Tryz.prog (midOf mnames 0) Tryz.f135 ex135 hi135 = some cc135 := by kernel_rfl
theorem tt137 : compFn Tryz.prog (midOf mnames 0) Tryz.f137 ex137 hi137 = some cc137 := by kernel_rfl
theorem tt139 : compFn Tryz.prog (midOf mnames 0) Tryz.f139 ex139 hi139 = some cc139 := by kernel_rfl
theorem tt141 : compFn Tryz.prog (midOf mnames 0) Tryz.f141 ex141 hi141 = some cc141 := by kernel_rfl
theorem tt143 : compFn Tryz.prog (midOf mnames 0) Tryz.f143 ex143 hi143 = some cc143 := by kernel_rfl
theorem tt145 : compFn Tryz.prog (midOf mnames 0) Tryz.f145 ex145 hi145 = some cc145 := by kernel_rfl
theorem tt147 : compFn Tryz.prog (midOf mnames 0) Tryz.f147 ex147 hi147 = some cc147 := by kernel_rfl
theorem tt149 : compFn Tryz.prog (midOf mnames 0) Tryz.f149 ex149 hi149 = some cc149 := by kernel_rfl
theorem tt159 : compFn Tryz.prog (midOf mnames 0) Tryz.f159 ex159 hi159 = some cc159 := by kernel_rfl
theorem tt161 : compFn Tryz.prog (midOf mnames 0) Tryz.f161 ex161 hi161 = some cc161 := by kernel_rfl
theorem tt163 : compFn Tryz.prog (midOf mnames 0) Tryz.f163 ex163 hi163 = some cc163 := by kernel_rfl
theorem tt172 : compFn Tryz.prog (midOf mnames 0) Tryz.f172 ex172 hi172 = some cc172 := by kernel_rfl
theorem tt181 : compFn Tryz.prog (midOf mnames 0) Tryz.f181 ex181 hi181 = some cc181 := by kernel_rfl
theorem tt183 : compFn Tryz.prog (midOf mnames 0) Tryz.f183 ex183 hi183 = some cc183 := by kernel_rfl
theorem tt185 : compFn Tryz.prog (midOf mnames 0) Tryz.f185 ex185 hi185 = some cc185 := by kernel_rfl
theorem tt187 : compFn Tryz.prog (midOf mnames 0) Tryz.f187 ex187 hi187 = some cc187 := by kernel_rfl
theorem tt189 : compFn Tryz.prog (midOf mnames 0) Tryz.f189 ex189 hi189 = some cc189 := by kernel_rfl
theorem tt191 : compFn Tryz.prog (midOf mnames 0) Tryz.f191 ex191 hi191 = some cc191 := by kernel_rfl
theorem tt193 : compFn Tryz.prog (midOf mnames 0) Tryz.f193 ex193 hi193 = some cc193 := by kernel_rfl
theorem tt195 : compFn Tryz.prog (midOf mnames 0) Tryz.f195 ex195 hi195 = some cc195 := by kernel_rfl
theorem tt197 : compFn Tryz.prog (midOf mnames 0) Tryz.f197 ex197 hi197 = some cc197 := by kernel_rfl
theorem tt199 : compFn Tryz.prog (midOf mnames 0) Tryz.f199 ex199 hi199 = some cc199 := by kernel_rfl
theorem tt210 : compFn Tryz.prog (midOf mnames 0) Tryz.f210 ex210 hi210 = some cc210 := by kernel_rfl
theorem tt212 : compFn Tryz.prog (midOf mnames 0) Tryz.f212 ex212 hi212 = some cc212 := by kernel_rfl
theorem tt214 : compFn Tryz.prog (midOf mnames 0) Tryz.f214 ex214 hi214 = some cc214 := by kernel_rfl
theorem tt222 : compFn Tryz.prog (midOf mnames 0) Tryz.f222 ex222 hi222 = some cc222 := by kernel_rfl
theorem tt224 : compFn Tryz.prog (midOf mnames 0) Tryz.f224 ex224 hi224 = some cc224 := by kernel_rfl
theorem tt226 : compFn Tryz.prog (midOf mnames 0) Tryz.f226 ex226 hi226 = some cc226 := by kernel_rfl
theorem tt228 : compFn Tryz.prog (midOf mnames 0) Tryz.f228 ex228 hi228 = some cc228 := by kernel_rfl
theorem tt234 : compFn Tryz.prog (midOf mnames 0) Tryz.f234 ex234 hi234 = some cc234 := by kernel_rfl
theorem tt237 : compFn Tryz.prog (midOf mnames 0) Tryz.f237 ex237 hi237 = some cc237 := by kernel_rfl
theorem tt244 : compFn Tryz.prog (midOf mnames 0) Tryz.f244 ex244 hi244 = some cc244 := by kernel_rfl
theorem tt252 : compFn Tryz.prog (midOf mnames 0) Tryz.f252 ex252 hi252 = some cc252 := by kernel_rfl
theorem tt254 : compFn Tryz.prog (midOf mnames 0) Tryz.f254 ex254 hi254 = some cc254 := by kernel_rfl
theorem tt256 : compFn Tryz.prog (midOf mnames 0) Tryz.f256 ex256 hi256 = some cc256 := by kernel_rfl
theorem tt259 : compFn Tryz.prog (midOf mnames 0) Tryz.f259 ex259 hi259 = some cc259 := by kernel_rfl
theorem tt270 : compFn Tryz.prog (midOf mnames 0) Tryz.f270 ex270 hi270 = some cc270 := by kernel_rfl
theorem tt284 : compFn Tryz.prog (midOf mnames 0) Tryz.f284 ex284 hi284 = some cc284 := by kernel_rfl
theorem tt291 : compFn Tryz.prog (midOf mnames 0) Tryz.f291 ex291 hi291 = some cc291 := by kernel_rfl

end Go.Proofs.YtlmoljejdakdbaaGreatDoor
