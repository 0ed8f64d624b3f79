/- What the machine tells of Put and Right with texts known by a name alone. No condition. -/
import Derived.Test.YtfieklkhbihhoaaGreatDoorR
import Derived.Test.YtfieklkhbihhoaaGreatDoorX
import Derived.KernelRfl
namespace Go.Proofs.YtfieklkhbihhoaaGreatDoor
open Go Go.Vm Go.RowKit
set_option maxRecDepth 1000000
noncomputable def wayN (i : Nat) : AV := if i = 0 then .str 4 1835627124 else .str 5 491328597868
noncomputable def likeN (i : Nat) : AV := if i = 0 then .str 9 2018293367238157887852 else .str 10 540221506414883543673196
noncomputable def trA (k : Nat) : AV := .agg [.int .i64 (.ofNat 4), .tok k, .nils, .nils]
def sliceB : AV → Bool | .slice .. => true | .nils => true | _ => false
def isPtr : AV → Bool | .ptr .. => true | _ => false
noncomputable def mOf (i : Nat) : Mem := if i = 0 then rr28.m' else rr31.m'
noncomputable def pOf (i : Nat) : AV := if i = 0 then rr28.v else rr31.v
noncomputable def vT : List (List AV × AV) := [([.tok 0], .bool true), ([.tok 1], .bool true)]
noncomputable def cT (i k : Nat) : List (List AV × AV) := [([wayN i, .tok 0], .tok 2), ([wayN i, .tok 1], .tok k)]
theorem rt26 : told (callF (fsX ftab.get 4 47 [] [([.tok 0], .bool true)]) mtab loopFuel (callO (fsX ftab.get 4 47 [] [([.tok 0], .bool true)]) mtab loopFuel (oraL []) 200) rr26.f rr26.l rr26.m nrm) rr26.m.nx rr26.v rr26.m' = true := by kernel_rfl
theorem rt27 : told (callF (fsX ftab.get 4 47 [] [([.tok 0], .bool false)]) mtab loopFuel (callO (fsX ftab.get 4 47 [] [([.tok 0], .bool false)]) mtab loopFuel (oraL []) 200) rr27.f rr27.l rr27.m nrm) rr27.m.nx rr27.v rr27.m' = true := by kernel_rfl
theorem rt29 : told (callF (fsX ftab.get 4 47 (cT 0 2) vT) mtab loopFuel (callO (fsX ftab.get 4 47 (cT 0 2) vT) mtab loopFuel (oraL []) 200) rr29.f rr29.l rr29.m nrm) rr29.m.nx rr29.v rr29.m' = true := by kernel_rfl
theorem rt30 : told (callF (fsX ftab.get 4 47 (cT 0 3) vT) mtab loopFuel (callO (fsX ftab.get 4 47 (cT 0 3) vT) mtab loopFuel (oraL []) 200) rr30.f rr30.l rr30.m nrm) rr30.m.nx rr30.v rr30.m' = true := by kernel_rfl
theorem rt32 : told (callF (fsX ftab.get 4 47 (cT 1 2) vT) mtab loopFuel (callO (fsX ftab.get 4 47 (cT 1 2) vT) mtab loopFuel (oraL []) 200) rr32.f rr32.l rr32.m nrm) rr32.m.nx rr32.v rr32.m' = true := by kernel_rfl
theorem rt33 : told (callF (fsX ftab.get 4 47 (cT 1 3) vT) mtab loopFuel (callO (fsX ftab.get 4 47 (cT 1 3) vT) mtab loopFuel (oraL []) 200) rr33.f rr33.l rr33.m nrm) rr33.m.nx rr33.v rr33.m' = true := by kernel_rfl
end Go.Proofs.YtfieklkhbihhoaaGreatDoor
