/- The machine's code is the program's, part 1. No condition. -/
import Derived.Test.YtaghknkbkcmmiaaGreatDoorTa
import Derived.Test.YtaghknkbkcmmiaaGreatDoorTb
import Derived.Test.YtaghknkbkcmmiaaGreatDoorM
namespace Go.Proofs.YtaghknkbkcmmiaaGreatDoor
open Go Go.Vm Go.RowKit
set_option maxRecDepth 1000000
theorem tt3 : compFn Tryz.prog (midOf mnames 0) Tryz.f3 ex3 hi3 = some cc3 := by kernel_rfl
theorem tt6 : compFn Tryz.prog (midOf mnames 0) Tryz.f6 ex6 hi6 = some cc6 := by kernel_rfl
theorem tt9 : compFn Tryz.prog (midOf mnames 0) Tryz.f9 ex9 hi9 = some cc9 := by kernel_rfl
theorem tt12 : compFn Tryz.prog (midOf mnames 0) Tryz.f12 ex12 hi12 = some cc12 := by kernel_rfl
theorem tt15 : compFn Tryz.prog (midOf mnames 0) Tryz.f15 ex15 hi15 = some cc15 := by kernel_rfl
theorem tt18 : compFn Tryz.prog (midOf mnames 0) Tryz.f18 ex18 hi18 = some cc18 := by kernel_rfl
theorem tt22 : compFn Tryz.prog (midOf mnames 0) Tryz.f22 ex22 hi22 = some cc22 := by kernel_rfl
theorem tt25 : compFn Tryz.prog (midOf mnames 0) Tryz.f25 ex25 hi25 = some cc25 := by kernel_rfl
theorem tt29 : compFn Tryz.prog (midOf mnames 0) Tryz.f29 ex29 hi29 = some cc29 := by kernel_rfl
theorem tt32 : compFn Tryz.prog (midOf mnames 0) Tryz.f32 ex32 hi32 = some cc32 := by kernel_rfl
theorem tt35 : compFn Tryz.prog (midOf mnames 0) Tryz.f35 ex35 hi35 = some cc35 := by kernel_rfl
theorem tt39 : compFn Tryz.prog (midOf mnames 0) Tryz.f39 ex39 hi39 = some cc39 := by kernel_rfl
theorem tt42 : compFn Tryz.prog (midOf mnames 0) Tryz.f42 ex42 hi42 = some cc42 := by kernel_rfl
theorem tt45 : compFn Tryz.prog (midOf mnames 0) Tryz.f45 ex45 hi45 = some cc45 := by kernel_rfl
theorem tt52 : compFn Tryz.prog (midOf mnames 0) Tryz.f52 ex52 hi52 = some cc52 := by kernel_rfl
theorem tt55 : compFn Tryz.prog (midOf mnames 0) Tryz.f55 ex55 hi55 = some cc55 := by kernel_rfl
theorem tt58 : compFn Tryz.prog (midOf mnames 0) Tryz.f58 ex58 hi58 = some cc58 := by kernel_rfl
theorem tt61 : compFn Tryz.prog (midOf mnames 0) Tryz.f61 ex61 hi61 = some cc61 := by kernel_rfl
theorem tt64 : compFn Tryz.prog (midOf mnames 0) Tryz.f64 ex64 hi64 = some cc64 := by kernel_rfl
theorem tt67 : compFn Tryz.prog (midOf mnames 0) Tryz.f67 ex67 hi67 = some cc67 := by kernel_rfl
theorem tt74 : compFn Tryz.prog (midOf mnames 0) Tryz.f74 ex74 hi74 = some cc74 := by kernel_rfl
theorem tt78 : compFn Tryz.prog (midOf mnames 0) Tryz.f78 ex78 hi78 = some cc78 := by kernel_rfl
theorem tt82 : compFn Tryz.prog (midOf mnames 0) Tryz.f82 ex82 hi82 = some cc82 := by kernel_rfl
theorem tt85 : compFn Tryz.prog (midOf mnames 0) Tryz.f85 ex85 hi85 = some cc85 := by kernel_rfl
theorem tt88 : compFn Tryz.prog (midOf mnames 0) Tryz.f88 ex88 hi88 = some cc88 := by kernel_rfl
theorem tt91 : compFn Tryz.prog (midOf mnames 0) Tryz.f91 ex91 hi91 = some cc91 := by kernel_rfl
theorem tt94 : compFn Tryz.prog (midOf mnames 0) Tryz.f94 ex94 hi94 = some cc94 := by kernel_rfl
theorem tt97 : compFn Tryz.prog (midOf mnames 0) Tryz.f97 ex97 hi97 = some cc97 := by kernel_rfl
theorem tt100 : compFn Tryz.prog (midOf mnames 0) Tryz.f100 ex100 hi100 = some cc100 := by kernel_rfl
theorem tt108 : compFn Tryz.prog (midOf mnames 0) Tryz.f108 ex108 hi108 = some cc108 := by kernel_rfl
theorem tt111 : compFn Tryz.prog (midOf mnames 0) Tryz.f111 ex111 hi111 = some cc111 := by kernel_rfl
theorem tt115 : compFn Tryz.prog (midOf mnames 0) Tryz.f115 ex115 hi115 = some cc115 := by kernel_rfl
theorem tt120 : compFn Tryz.prog (midOf mnames 0) Tryz.f120 ex120 hi120 = some cc120 := by kernel_rfl
theorem tt123 : compFn Tryz.prog (midOf mnames 0) Tryz.f123 ex123 hi123 = some cc123 := by kernel_rfl
theorem tt127 : compFn Tryz.prog (midOf mnames 0) Tryz.f127 ex127 hi127 = some cc127 := by kernel_rfl
theorem tt131 : compFn Tryz.prog (midOf mnames 0) Tryz.f131 ex131 hi131 = some cc131 := by kernel_rfl
theorem tt134 : compFn Tryz.prog (midOf mnames 0) Tryz.f134 ex134 hi134 = some cc134 := by kernel_rfl
theorem tt137 : compFn Tryz.prog (midOf mnames 0) Tryz.f137 ex137 hi137 = some cc137 := by kernel_rfl
theorem tt140 : compFn Tryz.prog (midOf mnames 0) Tryz.f140 ex140 hi140 = some cc140 := by kernel_rfl
theorem tt143 : compFn Tryz.prog (midOf mnames 0) Tryz.f143 ex143 hi143 = some cc143 := by kernel_rfl
theorem tt146 : compFn Tryz.prog (midOf mnames 0) Tryz.f146 ex146 hi146 = some cc146 := by kernel_rfl
theorem tt149 : compFn Tryz.prog (midOf mnames 0) Tryz.f149 ex149 hi149 = some cc149 := by kernel_rfl
theorem tt153 : compFn Tryz.prog (midOf mnames 0) Tryz.f153 ex153 hi153 = some cc153 := by kernel_rfl
theorem tt156 : compFn Tryz.prog (midOf mnames 0) Tryz.f156 ex156 hi156 = some cc156 := by kernel_rfl
theorem tt167 : compFn Tryz.prog (midOf mnames 0) Tryz.f167 ex167 hi167 = some cc167 := by kernel_rfl
theorem tt170 : compFn Tryz.prog (midOf mnames 0) Tryz.f170 ex170 hi170 = some cc170 := by kernel_rfl
theorem tt176 : compFn Tryz.prog (midOf mnames 0) Tryz.f176 ex176 hi176 = some cc176 := by kernel_rfl
theorem tt180 : compFn Tryz.prog (midOf mnames 0) Tryz.f180 ex180 hi180 = some cc180 := by kernel_rfl
theorem tt183 : compFn Tryz.prog (midOf mnames 0) Tryz.f183 ex183 hi183 = some cc183 := by kernel_rfl
theorem tt186 : compFn Tryz.prog (midOf mnames 0) Tryz.f186 ex186 hi186 = some cc186 := by kernel_rfl
theorem tt189 : compFn Tryz.prog (midOf mnames 0) Tryz.f189 ex189 hi189 = some cc189 := by kernel_rfl
theorem tt192 : compFn Tryz.prog (midOf mnames 0) Tryz.f192 ex192 hi192 = some cc192 := by kernel_rfl
theorem tt195 : compFn Tryz.prog (midOf mnames 0) Tryz.f195 ex195 hi195 = some cc195 := by kernel_rfl
theorem tt198 : compFn Tryz.prog (midOf mnames 0) Tryz.f198 ex198 hi198 = some cc198 := by kernel_rfl
theorem tt201 : compFn Tryz.prog (midOf mnames 0) Tryz.f201 ex201 hi201 = some cc201 := by kernel_rfl
theorem tt204 : compFn Tryz.prog (midOf mnames 0) Tryz.f204 ex204 hi204 = some cc204 := by kernel_rfl
theorem tt216 : compFn Tryz.prog (midOf mnames 0) Tryz.f216 ex216 hi216 = some cc216 := by kernel_rfl
theorem tt219 : compFn Tryz.prog (midOf mnames 0) Tryz.f219 ex219 hi219 = some cc219 := by kernel_rfl
theorem tt223 : compFn Tryz.prog (midOf mnames 0) Tryz.f223 ex223 hi223 = some cc223 := by kernel_rfl
theorem tt230 : compFn Tryz.prog (midOf mnames 0) Tryz.f230 ex230 hi230 = some cc230 := by kernel_rfl
theorem tt234 : compFn Tryz.prog (midOf mnames 0) Tryz.f234 ex234 hi234 = some cc234 := by kernel_rfl
theorem tt237 : compFn Tryz.prog (midOf mnames 0) Tryz.f237 ex237 hi237 = some cc237 := by kernel_rfl
theorem tt240 : compFn Tryz.prog (midOf mnames 0) Tryz.f240 ex240 hi240 = some cc240 := by kernel_rfl
theorem tt243 : compFn Tryz.prog (midOf mnames 0) Tryz.f243 ex243 hi243 = some cc243 := by kernel_rfl
theorem tt250 : compFn Tryz.prog (midOf mnames 0) Tryz.f250 ex250 hi250 = some cc250 := by kernel_rfl
theorem tt263 : compFn Tryz.prog (midOf mnames 0) Tryz.f263 ex263 hi263 = some cc263 := by kernel_rfl
theorem tt270 : compFn Tryz.prog (midOf mnames 0) Tryz.f270 ex270 hi270 = some cc270 := by kernel_rfl
theorem tt275 : compFn Tryz.prog (midOf mnames 0) Tryz.f275 ex275 hi275 = some cc275 := by kernel_rfl
theorem tt281 : compFn Tryz.prog (midOf mnames 0) Tryz.f281 ex281 hi281 = some cc281 := by kernel_rfl
theorem tt284 : compFn Tryz.prog (midOf mnames 0) Tryz.f284 ex284 hi284 = some cc284 := by kernel_rfl
theorem tt299 : compFn Tryz.prog (midOf mnames 0) Tryz.f299 ex299 hi299 = some cc299 := by kernel_rfl
theorem tt302 : compFn Tryz.prog (midOf mnames 0) Tryz.f302 ex302 hi302 = some cc302 := by kernel_rfl
theorem tt305 : compFn Tryz.prog (midOf mnames 0) Tryz.f305 ex305 hi305 = some cc305 := by kernel_rfl
theorem tt310 : compFn Tryz.prog (midOf mnames 0) Tryz.f310 ex310 hi310 = some cc310 := by kernel_rfl
theorem tt313 : compFn Tryz.prog (midOf mnames 0) Tryz.f313 ex313 hi313 = some cc313 := by kernel_rfl
theorem tt316 : compFn Tryz.prog (midOf mnames 0) Tryz.f316 ex316 hi316 = some cc316 := by kernel_rfl
theorem tt319 : compFn Tryz.prog (midOf mnames 0) Tryz.f319 ex319 hi319 = some cc319 := by kernel_rfl
theorem tt332 : compFn Tryz.prog (midOf mnames 0) Tryz.f332 ex332 hi332 = some cc332 := by kernel_rfl
theorem tt339 : compFn Tryz.prog (midOf mnames 0) Tryz.f339 ex339 hi339 = some cc339 := by kernel_rfl
theorem tt350 : compFn Tryz.prog (midOf mnames 0) Tryz.f350 ex350 hi350 = some cc350 := by kernel_rfl

end Go.Proofs.YtaghknkbkcmmiaaGreatDoor
