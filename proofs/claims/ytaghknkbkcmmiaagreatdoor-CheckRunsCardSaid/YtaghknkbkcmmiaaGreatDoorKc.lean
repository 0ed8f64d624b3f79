/- The machine's code is the program's, part 3. No condition. -/
import Derived.Test.YtaghknkbkcmmiaaGreatDoorTa
import Derived.Test.YtaghknkbkcmmiaaGreatDoorTb
import Derived.Test.YtaghknkbkcmmiaaGreatDoorM
namespace Go.Proofs.YtaghknkbkcmmiaaGreatDoor
open Go Go.Vm Go.RowKit
set_option maxRecDepth 1000000
theorem tt5 : compFn Tryz.prog (midOf mnames 0) Tryz.f5 ex5 hi5 = some cc5 := by kernel_rfl
theorem tt8 : compFn Tryz.prog (midOf mnames 0) Tryz.f8 ex8 hi8 = some cc8 := by kernel_rfl
theorem tt11 : compFn Tryz.prog (midOf mnames 0) Tryz.f11 ex11 hi11 = some cc11 := by kernel_rfl
theorem tt14 : compFn Tryz.prog (midOf mnames 0) Tryz.f14 ex14 hi14 = some cc14 := by kernel_rfl
theorem tt17 : compFn Tryz.prog (midOf mnames 0) Tryz.f17 ex17 hi17 = some cc17 := by kernel_rfl
theorem tt21 : compFn Tryz.prog (midOf mnames 0) Tryz.f21 ex21 hi21 = some cc21 := by kernel_rfl
theorem tt24 : compFn Tryz.prog (midOf mnames 0) Tryz.f24 ex24 hi24 = some cc24 := by kernel_rfl
theorem tt27 : compFn Tryz.prog (midOf mnames 0) Tryz.f27 ex27 hi27 = some cc27 := by kernel_rfl
theorem tt31 : compFn Tryz.prog (midOf mnames 0) Tryz.f31 ex31 hi31 = some cc31 := by kernel_rfl
theorem tt34 : compFn Tryz.prog (midOf mnames 0) Tryz.f34 ex34 hi34 = some cc34 := by kernel_rfl
theorem tt37 : compFn Tryz.prog (midOf mnames 0) Tryz.f37 ex37 hi37 = some cc37 := by kernel_rfl
theorem tt41 : compFn Tryz.prog (midOf mnames 0) Tryz.f41 ex41 hi41 = some cc41 := by kernel_rfl
theorem tt44 : compFn Tryz.prog (midOf mnames 0) Tryz.f44 ex44 hi44 = some cc44 := by kernel_rfl
theorem tt49 : compFn Tryz.prog (midOf mnames 0) Tryz.f49 ex49 hi49 = some cc49 := by kernel_rfl
theorem tt54 : compFn Tryz.prog (midOf mnames 0) Tryz.f54 ex54 hi54 = some cc54 := by kernel_rfl
theorem tt57 : compFn Tryz.prog (midOf mnames 0) Tryz.f57 ex57 hi57 = some cc57 := by kernel_rfl
theorem tt60 : compFn Tryz.prog (midOf mnames 0) Tryz.f60 ex60 hi60 = some cc60 := by kernel_rfl
theorem tt63 : compFn Tryz.prog (midOf mnames 0) Tryz.f63 ex63 hi63 = some cc63 := by kernel_rfl
theorem tt66 : compFn Tryz.prog (midOf mnames 0) Tryz.f66 ex66 hi66 = some cc66 := by kernel_rfl
theorem tt69 : compFn Tryz.prog (midOf mnames 0) Tryz.f69 ex69 hi69 = some cc69 := by kernel_rfl
theorem tt77 : compFn Tryz.prog (midOf mnames 0) Tryz.f77 ex77 hi77 = some cc77 := by kernel_rfl
theorem tt80 : compFn Tryz.prog (midOf mnames 0) Tryz.f80 ex80 hi80 = some cc80 := by kernel_rfl
theorem tt84 : compFn Tryz.prog (midOf mnames 0) Tryz.f84 ex84 hi84 = some cc84 := by kernel_rfl
theorem tt87 : compFn Tryz.prog (midOf mnames 0) Tryz.f87 ex87 hi87 = some cc87 := by kernel_rfl
theorem tt90 : compFn Tryz.prog (midOf mnames 0) Tryz.f90 ex90 hi90 = some cc90 := by kernel_rfl
theorem tt93 : compFn Tryz.prog (midOf mnames 0) Tryz.f93 ex93 hi93 = some cc93 := by kernel_rfl
theorem tt96 : compFn Tryz.prog (midOf mnames 0) Tryz.f96 ex96 hi96 = some cc96 := by kernel_rfl
theorem tt99 : compFn Tryz.prog (midOf mnames 0) Tryz.f99 ex99 hi99 = some cc99 := by kernel_rfl
theorem tt106 : compFn Tryz.prog (midOf mnames 0) Tryz.f106 ex106 hi106 = some cc106 := by kernel_rfl
theorem tt110 : compFn Tryz.prog (midOf mnames 0) Tryz.f110 ex110 hi110 = some cc110 := by kernel_rfl
theorem tt113 : compFn Tryz.prog (midOf mnames 0) Tryz.f113 ex113 hi113 = some cc113 := by kernel_rfl
theorem tt119 : compFn Tryz.prog (midOf mnames 0) Tryz.f119 ex119 hi119 = some cc119 := by kernel_rfl
theorem tt122 : compFn Tryz.prog (midOf mnames 0) Tryz.f122 ex122 hi122 = some cc122 := by kernel_rfl
theorem tt126 : compFn Tryz.prog (midOf mnames 0) Tryz.f126 ex126 hi126 = some cc126 := by kernel_rfl
theorem tt130 : compFn Tryz.prog (midOf mnames 0) Tryz.f130 ex130 hi130 = some cc130 := by kernel_rfl
theorem tt133 : compFn Tryz.prog (midOf mnames 0) Tryz.f133 ex133 hi133 = some cc133 := by kernel_rfl
theorem tt136 : compFn Tryz.prog (midOf mnames 0) Tryz.f136 ex136 hi136 = some cc136 := by kernel_rfl
theorem tt139 : compFn Tryz.prog (midOf mnames 0) Tryz.f139 ex139 hi139 = some cc139 := by kernel_rfl
theorem tt142 : compFn Tryz.prog (midOf mnames 0) Tryz.f142 ex142 hi142 = some cc142 := by kernel_rfl
theorem tt145 : compFn Tryz.prog (midOf mnames 0) Tryz.f145 ex145 hi145 = some cc145 := by kernel_rfl
theorem tt148 : compFn Tryz.prog (midOf mnames 0) Tryz.f148 ex148 hi148 = some cc148 := by kernel_rfl
theorem tt152 : compFn Tryz.prog (midOf mnames 0) Tryz.f152 ex152 hi152 = some cc152 := by kernel_rfl
theorem tt155 : compFn Tryz.prog (midOf mnames 0) Tryz.f155 ex155 hi155 = some cc155 := by kernel_rfl
theorem tt166 : compFn Tryz.prog (midOf mnames 0) Tryz.f166 ex166 hi166 = some cc166 := by kernel_rfl
theorem tt169 : compFn Tryz.prog (midOf mnames 0) Tryz.f169 ex169 hi169 = some cc169 := by kernel_rfl
theorem tt174 : compFn Tryz.prog (midOf mnames 0) Tryz.f174 ex174 hi174 = some cc174 := by kernel_rfl
theorem tt178 : compFn Tryz.prog (midOf mnames 0) Tryz.f178 ex178 hi178 = some cc178 := by kernel_rfl
theorem tt182 : compFn Tryz.prog (midOf mnames 0) Tryz.f182 ex182 hi182 = some cc182 := by kernel_rfl
theorem tt185 : compFn Tryz.prog (midOf mnames 0) Tryz.f185 ex185 hi185 = some cc185 := by kernel_rfl
theorem tt188 : compFn Tryz.prog (midOf mnames 0) Tryz.f188 ex188 hi188 = some cc188 := by kernel_rfl
theorem tt191 : compFn Tryz.prog (midOf mnames 0) Tryz.f191 ex191 hi191 = some cc191 := by kernel_rfl
theorem tt194 : compFn Tryz.prog (midOf mnames 0) Tryz.f194 ex194 hi194 = some cc194 := by kernel_rfl
theorem tt197 : compFn Tryz.prog (midOf mnames 0) Tryz.f197 ex197 hi197 = some cc197 := by kernel_rfl
theorem tt200 : compFn Tryz.prog (midOf mnames 0) Tryz.f200 ex200 hi200 = some cc200 := by kernel_rfl
theorem tt203 : compFn Tryz.prog (midOf mnames 0) Tryz.f203 ex203 hi203 = some cc203 := by kernel_rfl
theorem tt208 : compFn Tryz.prog (midOf mnames 0) Tryz.f208 ex208 hi208 = some cc208 := by kernel_rfl
theorem tt218 : compFn Tryz.prog (midOf mnames 0) Tryz.f218 ex218 hi218 = some cc218 := by kernel_rfl
theorem tt221 : compFn Tryz.prog (midOf mnames 0) Tryz.f221 ex221 hi221 = some cc221 := by kernel_rfl
theorem tt229 : compFn Tryz.prog (midOf mnames 0) Tryz.f229 ex229 hi229 = some cc229 := by kernel_rfl
theorem tt233 : compFn Tryz.prog (midOf mnames 0) Tryz.f233 ex233 hi233 = some cc233 := by kernel_rfl
theorem tt236 : compFn Tryz.prog (midOf mnames 0) Tryz.f236 ex236 hi236 = some cc236 := by kernel_rfl
theorem tt239 : compFn Tryz.prog (midOf mnames 0) Tryz.f239 ex239 hi239 = some cc239 := by kernel_rfl
theorem tt242 : compFn Tryz.prog (midOf mnames 0) Tryz.f242 ex242 hi242 = some cc242 := by kernel_rfl
theorem tt249 : compFn Tryz.prog (midOf mnames 0) Tryz.f249 ex249 hi249 = some cc249 := by kernel_rfl
theorem tt252 : compFn Tryz.prog (midOf mnames 0) Tryz.f252 ex252 hi252 = some cc252 := by kernel_rfl
theorem tt269 : compFn Tryz.prog (midOf mnames 0) Tryz.f269 ex269 hi269 = some cc269 := by kernel_rfl
theorem tt274 : compFn Tryz.prog (midOf mnames 0) Tryz.f274 ex274 hi274 = some cc274 := by kernel_rfl
theorem tt280 : compFn Tryz.prog (midOf mnames 0) Tryz.f280 ex280 hi280 = some cc280 := by kernel_rfl
theorem tt283 : compFn Tryz.prog (midOf mnames 0) Tryz.f283 ex283 hi283 = some cc283 := by kernel_rfl
theorem tt298 : compFn Tryz.prog (midOf mnames 0) Tryz.f298 ex298 hi298 = some cc298 := by kernel_rfl
theorem tt301 : compFn Tryz.prog (midOf mnames 0) Tryz.f301 ex301 hi301 = some cc301 := by kernel_rfl
theorem tt304 : compFn Tryz.prog (midOf mnames 0) Tryz.f304 ex304 hi304 = some cc304 := by kernel_rfl
theorem tt309 : compFn Tryz.prog (midOf mnames 0) Tryz.f309 ex309 hi309 = some cc309 := by kernel_rfl
theorem tt312 : compFn Tryz.prog (midOf mnames 0) Tryz.f312 ex312 hi312 = some cc312 := by kernel_rfl
theorem tt315 : compFn Tryz.prog (midOf mnames 0) Tryz.f315 ex315 hi315 = some cc315 := by kernel_rfl
theorem tt318 : compFn Tryz.prog (midOf mnames 0) Tryz.f318 ex318 hi318 = some cc318 := by kernel_rfl
theorem tt331 : compFn Tryz.prog (midOf mnames 0) Tryz.f331 ex331 hi331 = some cc331 := by kernel_rfl
theorem tt334 : compFn Tryz.prog (midOf mnames 0) Tryz.f334 ex334 hi334 = some cc334 := by kernel_rfl
theorem tt344 : compFn Tryz.prog (midOf mnames 0) Tryz.f344 ex344 hi344 = some cc344 := by kernel_rfl
theorem tt380 : compFn Tryz.prog (midOf mnames 0) Tryz.f380 ex380 hi380 = some cc380 := by kernel_rfl

end Go.Proofs.YtaghknkbkcmmiaaGreatDoor
