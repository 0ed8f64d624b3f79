/- The machine's code is the program's, part 2. No condition. -/
import Derived.Test.YtaghknkbkcmmiaaGreatDoorTa
import Derived.Test.YtaghknkbkcmmiaaGreatDoorTb
import Derived.Test.YtaghknkbkcmmiaaGreatDoorM
namespace Go.Proofs.YtaghknkbkcmmiaaGreatDoor
open Go Go.Vm Go.RowKit
set_option maxRecDepth 1000000
theorem tt4 : compFn Tryz.prog (midOf mnames 0) Tryz.f4 ex4 hi4 = some cc4 := by kernel_rfl
theorem tt7 : compFn Tryz.prog (midOf mnames 0) Tryz.f7 ex7 hi7 = some cc7 := by kernel_rfl
theorem tt10 : compFn Tryz.prog (midOf mnames 0) Tryz.f10 ex10 hi10 = some cc10 := by kernel_rfl
theorem tt13 : compFn Tryz.prog (midOf mnames 0) Tryz.f13 ex13 hi13 = some cc13 := by kernel_rfl
theorem tt16 : compFn Tryz.prog (midOf mnames 0) Tryz.f16 ex16 hi16 = some cc16 := by kernel_rfl
theorem tt19 : compFn Tryz.prog (midOf mnames 0) Tryz.f19 ex19 hi19 = some cc19 := by kernel_rfl
theorem tt23 : compFn Tryz.prog (midOf mnames 0) Tryz.f23 ex23 hi23 = some cc23 := by kernel_rfl
theorem tt26 : compFn Tryz.prog (midOf mnames 0) Tryz.f26 ex26 hi26 = some cc26 := by kernel_rfl
theorem tt30 : compFn Tryz.prog (midOf mnames 0) Tryz.f30 ex30 hi30 = some cc30 := by kernel_rfl
theorem tt33 : compFn Tryz.prog (midOf mnames 0) Tryz.f33 ex33 hi33 = some cc33 := by kernel_rfl
theorem tt36 : compFn Tryz.prog (midOf mnames 0) Tryz.f36 ex36 hi36 = some cc36 := by kernel_rfl
theorem tt40 : compFn Tryz.prog (midOf mnames 0) Tryz.f40 ex40 hi40 = some cc40 := by kernel_rfl
theorem tt43 : compFn Tryz.prog (midOf mnames 0) Tryz.f43 ex43 hi43 = some cc43 := by kernel_rfl
theorem tt46 : compFn Tryz.prog (midOf mnames 0) Tryz.f46 ex46 hi46 = some cc46 := by kernel_rfl
theorem tt53 : compFn Tryz.prog (midOf mnames 0) Tryz.f53 ex53 hi53 = some cc53 := by kernel_rfl
theorem tt56 : compFn Tryz.prog (midOf mnames 0) Tryz.f56 ex56 hi56 = some cc56 := by kernel_rfl
theorem tt59 : compFn Tryz.prog (midOf mnames 0) Tryz.f59 ex59 hi59 = some cc59 := by kernel_rfl
theorem tt62 : compFn Tryz.prog (midOf mnames 0) Tryz.f62 ex62 hi62 = some cc62 := by kernel_rfl
theorem tt65 : compFn Tryz.prog (midOf mnames 0) Tryz.f65 ex65 hi65 = some cc65 := by kernel_rfl
theorem tt68 : compFn Tryz.prog (midOf mnames 0) Tryz.f68 ex68 hi68 = some cc68 := by kernel_rfl
theorem tt75 : compFn Tryz.prog (midOf mnames 0) Tryz.f75 ex75 hi75 = some cc75 := by kernel_rfl
theorem tt79 : compFn Tryz.prog (midOf mnames 0) Tryz.f79 ex79 hi79 = some cc79 := by kernel_rfl
theorem tt83 : compFn Tryz.prog (midOf mnames 0) Tryz.f83 ex83 hi83 = some cc83 := by kernel_rfl
theorem tt86 : compFn Tryz.prog (midOf mnames 0) Tryz.f86 ex86 hi86 = some cc86 := by kernel_rfl
theorem tt89 : compFn Tryz.prog (midOf mnames 0) Tryz.f89 ex89 hi89 = some cc89 := by kernel_rfl
theorem tt92 : compFn Tryz.prog (midOf mnames 0) Tryz.f92 ex92 hi92 = some cc92 := by kernel_rfl
theorem tt95 : compFn Tryz.prog (midOf mnames 0) Tryz.f95 ex95 hi95 = some cc95 := by kernel_rfl
theorem tt98 : compFn Tryz.prog (midOf mnames 0) Tryz.f98 ex98 hi98 = some cc98 := by kernel_rfl
theorem tt105 : compFn Tryz.prog (midOf mnames 0) Tryz.f105 ex105 hi105 = some cc105 := by kernel_rfl
theorem tt109 : compFn Tryz.prog (midOf mnames 0) Tryz.f109 ex109 hi109 = some cc109 := by kernel_rfl
theorem tt112 : compFn Tryz.prog (midOf mnames 0) Tryz.f112 ex112 hi112 = some cc112 := by kernel_rfl
theorem tt116 : compFn Tryz.prog (midOf mnames 0) Tryz.f116 ex116 hi116 = some cc116 := by kernel_rfl
theorem tt121 : compFn Tryz.prog (midOf mnames 0) Tryz.f121 ex121 hi121 = some cc121 := by kernel_rfl
theorem tt124 : compFn Tryz.prog (midOf mnames 0) Tryz.f124 ex124 hi124 = some cc124 := by kernel_rfl
theorem tt128 : compFn Tryz.prog (midOf mnames 0) Tryz.f128 ex128 hi128 = some cc128 := by kernel_rfl
theorem tt132 : compFn Tryz.prog (midOf mnames 0) Tryz.f132 ex132 hi132 = some cc132 := by kernel_rfl
theorem tt135 : compFn Tryz.prog (midOf mnames 0) Tryz.f135 ex135 hi135 = some cc135 := by kernel_rfl
theorem tt138 : compFn Tryz.prog (midOf mnames 0) Tryz.f138 ex138 hi138 = some cc138 := by kernel_rfl
theorem tt141 : compFn Tryz.prog (midOf mnames 0) Tryz.f141 ex141 hi141 = some cc141 := by kernel_rfl
theorem tt144 : compFn Tryz.prog (midOf mnames 0) Tryz.f144 ex144 hi144 = some cc144 := by kernel_rfl
theorem tt147 : compFn Tryz.prog (midOf mnames 0) Tryz.f147 ex147 hi147 = some cc147 := by kernel_rfl
theorem tt151 : compFn Tryz.prog (midOf mnames 0) Tryz.f151 ex151 hi151 = some cc151 := by kernel_rfl
theorem tt154 : compFn Tryz.prog (midOf mnames 0) Tryz.f154 ex154 hi154 = some cc154 := by kernel_rfl
theorem tt157 : compFn Tryz.prog (midOf mnames 0) Tryz.f157 ex157 hi157 = some cc157 := by kernel_rfl
theorem tt168 : compFn Tryz.prog (midOf mnames 0) Tryz.f168 ex168 hi168 = some cc168 := by kernel_rfl
theorem tt172 : compFn Tryz.prog (midOf mnames 0) Tryz.f172 ex172 hi172 = some cc172 := by kernel_rfl
theorem tt177 : compFn Tryz.prog (midOf mnames 0) Tryz.f177 ex177 hi177 = some cc177 := by kernel_rfl
theorem tt181 : compFn Tryz.prog (midOf mnames 0) Tryz.f181 ex181 hi181 = some cc181 := by kernel_rfl
theorem tt184 : compFn Tryz.prog (midOf mnames 0) Tryz.f184 ex184 hi184 = some cc184 := by kernel_rfl
theorem tt187 : compFn Tryz.prog (midOf mnames 0) Tryz.f187 ex187 hi187 = some cc187 := by kernel_rfl
theorem tt190 : compFn Tryz.prog (midOf mnames 0) Tryz.f190 ex190 hi190 = some cc190 := by kernel_rfl
theorem tt193 : compFn Tryz.prog (midOf mnames 0) Tryz.f193 ex193 hi193 = some cc193 := by kernel_rfl
theorem tt196 : compFn Tryz.prog (midOf mnames 0) Tryz.f196 ex196 hi196 = some cc196 := by kernel_rfl
theorem tt199 : compFn Tryz.prog (midOf mnames 0) Tryz.f199 ex199 hi199 = some cc199 := by kernel_rfl
theorem tt202 : compFn Tryz.prog (midOf mnames 0) Tryz.f202 ex202 hi202 = some cc202 := by kernel_rfl
theorem tt207 : compFn Tryz.prog (midOf mnames 0) Tryz.f207 ex207 hi207 = some cc207 := by kernel_rfl
theorem tt217 : compFn Tryz.prog (midOf mnames 0) Tryz.f217 ex217 hi217 = some cc217 := by kernel_rfl
theorem tt220 : compFn Tryz.prog (midOf mnames 0) Tryz.f220 ex220 hi220 = some cc220 := by kernel_rfl
theorem tt227 : compFn Tryz.prog (midOf mnames 0) Tryz.f227 ex227 hi227 = some cc227 := by kernel_rfl
theorem tt231 : compFn Tryz.prog (midOf mnames 0) Tryz.f231 ex231 hi231 = some cc231 := by kernel_rfl
theorem tt235 : compFn Tryz.prog (midOf mnames 0) Tryz.f235 ex235 hi235 = some cc235 := by kernel_rfl
theorem tt238 : compFn Tryz.prog (midOf mnames 0) Tryz.f238 ex238 hi238 = some cc238 := by kernel_rfl
theorem tt241 : compFn Tryz.prog (midOf mnames 0) Tryz.f241 ex241 hi241 = some cc241 := by kernel_rfl
theorem tt244 : compFn Tryz.prog (midOf mnames 0) Tryz.f244 ex244 hi244 = some cc244 := by kernel_rfl
theorem tt251 : compFn Tryz.prog (midOf mnames 0) Tryz.f251 ex251 hi251 = some cc251 := by kernel_rfl
theorem tt264 : compFn Tryz.prog (midOf mnames 0) Tryz.f264 ex264 hi264 = some cc264 := by kernel_rfl
theorem tt271 : compFn Tryz.prog (midOf mnames 0) Tryz.f271 ex271 hi271 = some cc271 := by kernel_rfl
theorem tt279 : compFn Tryz.prog (midOf mnames 0) Tryz.f279 ex279 hi279 = some cc279 := by kernel_rfl
theorem tt282 : compFn Tryz.prog (midOf mnames 0) Tryz.f282 ex282 hi282 = some cc282 := by kernel_rfl
theorem tt292 : compFn Tryz.prog (midOf mnames 0) Tryz.f292 ex292 hi292 = some cc292 := by kernel_rfl
theorem tt300 : compFn Tryz.prog (midOf mnames 0) Tryz.f300 ex300 hi300 = some cc300 := by kernel_rfl
theorem tt303 : compFn Tryz.prog (midOf mnames 0) Tryz.f303 ex303 hi303 = some cc303 := by kernel_rfl
theorem tt308 : compFn Tryz.prog (midOf mnames 0) Tryz.f308 ex308 hi308 = some cc308 := by kernel_rfl
theorem tt311 : compFn Tryz.prog (midOf mnames 0) Tryz.f311 ex311 hi311 = some cc311 := by kernel_rfl
theorem tt314 : compFn Tryz.prog (midOf mnames 0) Tryz.f314 ex314 hi314 = some cc314 := by kernel_rfl
theorem tt317 : compFn Tryz.prog (midOf mnames 0) Tryz.f317 ex317 hi317 = some cc317 := by kernel_rfl
theorem tt320 : compFn Tryz.prog (midOf mnames 0) Tryz.f320 ex320 hi320 = some cc320 := by kernel_rfl
theorem tt333 : compFn Tryz.prog (midOf mnames 0) Tryz.f333 ex333 hi333 = some cc333 := by kernel_rfl
theorem tt340 : compFn Tryz.prog (midOf mnames 0) Tryz.f340 ex340 hi340 = some cc340 := by kernel_rfl
theorem tt359 : compFn Tryz.prog (midOf mnames 0) Tryz.f359 ex359 hi359 = some cc359 := by kernel_rfl

end Go.Proofs.YtaghknkbkcmmiaaGreatDoor
