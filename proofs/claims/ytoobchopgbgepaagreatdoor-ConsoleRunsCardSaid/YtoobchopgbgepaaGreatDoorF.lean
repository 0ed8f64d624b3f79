/- What is recorded is the model's. No condition. -/
import Derived.Test.YtoobchopgbgepaaGreatDoorEa
import Derived.Test.YtoobchopgbgepaaGreatDoorEb
import Derived.Test.YtoobchopgbgepaaGreatDoorEc
import Derived.Test.YtoobchopgbgepaaGreatDoorEd
import Derived.Test.YtoobchopgbgepaaGreatDoorEe
import Derived.Test.YtoobchopgbgepaaGreatDoorEf
namespace Go.Proofs.YtoobchopgbgepaaGreatDoor
open Go Go.Vm Go.RowKit
theorem rk0 {H0 : Nat} {W0 : World} (hx : Prims H0 W0) : RecOk Tryz.prog H0 W0 rr0 := rec_of (n := 200) mixed mtOk (fsOk hx) (rs := []) (List.forall_mem_nil _) rt0
theorem rk1 {H0 : Nat} {W0 : World} (hx : Prims H0 W0) : RecOk Tryz.prog H0 W0 rr1 := rec_of (n := 200) mixed mtOk (fsOk hx) (rs := []) (List.forall_mem_nil _) rt1
theorem rk2 {H0 : Nat} {W0 : World} (hx : Prims H0 W0) : RecOk Tryz.prog H0 W0 rr2 := rec_of (n := 200) mixed mtOk (fsOk hx) (rs := []) (List.forall_mem_nil _) rt2
theorem rk3 {H0 : Nat} {W0 : World} (hx : Prims H0 W0) : RecOk Tryz.prog H0 W0 rr3 := rec_of (n := 200) mixed mtOk (fsOk hx) (rs := []) (List.forall_mem_nil _) rt3
theorem rk4 {H0 : Nat} {W0 : World} (hx : Prims H0 W0) : RecOk Tryz.prog H0 W0 rr4 := rec_of (n := 200) mixed mtOk (fsOk hx) (rs := []) (List.forall_mem_nil _) rt4
theorem rk5 {H0 : Nat} {W0 : World} (hx : Prims H0 W0) : RecOk Tryz.prog H0 W0 rr5 := rec_of (n := 200) mixed mtOk (fsOk hx) (rs := []) (List.forall_mem_nil _) rt5
theorem rk6 {H0 : Nat} {W0 : World} (hx : Prims H0 W0) : RecOk Tryz.prog H0 W0 rr6 := rec_of (n := 200) mixed mtOk (fsOk hx) (rs := []) (List.forall_mem_nil _) rt6
theorem rk7 {H0 : Nat} {W0 : World} (hx : Prims H0 W0) : RecOk Tryz.prog H0 W0 rr7 := rec_of (n := 200) mixed mtOk (fsOk hx) (rs := []) (List.forall_mem_nil _) rt7
theorem rk8 {H0 : Nat} {W0 : World} (hx : Prims H0 W0) : RecOk Tryz.prog H0 W0 rr8 := rec_of (n := 200) mixed mtOk (fsOk hx) (rs := []) (List.forall_mem_nil _) rt8
theorem rk9 {H0 : Nat} {W0 : World} (hx : Prims H0 W0) : RecOk Tryz.prog H0 W0 rr9 := rec_of (n := 200) mixed mtOk (fsOk hx) (rs := []) (List.forall_mem_nil _) rt9
theorem rk10 {H0 : Nat} {W0 : World} (hx : Prims H0 W0) : RecOk Tryz.prog H0 W0 rr10 := rec_of (n := 200) mixed mtOk (fsOk hx) (rs := []) (List.forall_mem_nil _) rt10
theorem rk11 {H0 : Nat} {W0 : World} (hx : Prims H0 W0) : RecOk Tryz.prog H0 W0 rr11 := rec_of (n := 200) mixed mtOk (fsOk hx) (rs := []) (List.forall_mem_nil _) rt11
theorem rk12 {H0 : Nat} {W0 : World} (hx : Prims H0 W0) : RecOk Tryz.prog H0 W0 rr12 := rec_of (n := 200) mixed mtOk (fsOk hx) (rs := []) (List.forall_mem_nil _) rt12
theorem rk13 {H0 : Nat} {W0 : World} (hx : Prims H0 W0) : RecOk Tryz.prog H0 W0 rr13 := rec_of (n := 200) mixed mtOk (fsOk hx) (rs := []) (List.forall_mem_nil _) rt13
theorem rk14 {H0 : Nat} {W0 : World} (hx : Prims H0 W0) : RecOk Tryz.prog H0 W0 rr14 := rec_of (n := 200) mixed mtOk (fsOk hx) (rs := []) (List.forall_mem_nil _) rt14
theorem rk15 {H0 : Nat} {W0 : World} (hx : Prims H0 W0) : RecOk Tryz.prog H0 W0 rr15 := rec_of (n := 200) mixed mtOk (fsOk hx) (rs := []) (List.forall_mem_nil _) rt15
theorem rk16 {H0 : Nat} {W0 : World} (hx : Prims H0 W0) : RecOk Tryz.prog H0 W0 rr16 := rec_of (n := 200) mixed mtOk (fsOk hx) (rs := []) (List.forall_mem_nil _) rt16
theorem rk17 {H0 : Nat} {W0 : World} (hx : Prims H0 W0) : RecOk Tryz.prog H0 W0 rr17 := rec_of (n := 200) mixed mtOk (fsOk hx) (rs := []) (List.forall_mem_nil _) rt17
theorem rk18 {H0 : Nat} {W0 : World} (hx : Prims H0 W0) : RecOk Tryz.prog H0 W0 rr18 := rec_of (n := 200) mixed mtOk (fsOk hx) (rs := []) (List.forall_mem_nil _) rt18
theorem rk19 {H0 : Nat} {W0 : World} (hx : Prims H0 W0) : RecOk Tryz.prog H0 W0 rr19 := rec_of (n := 200) mixed mtOk (fsOk hx) (rs := []) (List.forall_mem_nil _) rt19
theorem rk20 {H0 : Nat} {W0 : World} (hx : Prims H0 W0) : RecOk Tryz.prog H0 W0 rr20 := rec_of (n := 200) mixed mtOk (fsOk hx) (rs := []) (List.forall_mem_nil _) rt20
theorem rk21 {H0 : Nat} {W0 : World} (hx : Prims H0 W0) : RecOk Tryz.prog H0 W0 rr21 := rec_of (n := 200) mixed mtOk (fsOk hx) (rs := []) (List.forall_mem_nil _) rt21
theorem rk22 {H0 : Nat} {W0 : World} (hx : Prims H0 W0) : RecOk Tryz.prog H0 W0 rr22 := rec_of (n := 200) mixed mtOk (fsOk hx) (rs := []) (List.forall_mem_nil _) rt22
theorem rk23 {H0 : Nat} {W0 : World} (hx : Prims H0 W0) : RecOk Tryz.prog H0 W0 rr23 := rec_of (n := 200) mixed mtOk (fsOk hx) (rs := []) (List.forall_mem_nil _) rt23
theorem rk24 {H0 : Nat} {W0 : World} (hx : Prims H0 W0) : RecOk Tryz.prog H0 W0 rr24 := rec_of (n := 200) mixed mtOk (fsOk hx) (rs := []) (List.forall_mem_nil _) rt24
theorem rk25 {H0 : Nat} {W0 : World} (hx : Prims H0 W0) : RecOk Tryz.prog H0 W0 rr25 := rec_of (n := 200) mixed mtOk (fsOk hx) (rs := []) (List.forall_mem_nil _) rt25
theorem rk26 {H0 : Nat} {W0 : World} (hx : Prims H0 W0) : RecOk Tryz.prog H0 W0 rr26 := rec_of (n := 200) mixed mtOk (fsOk hx) (rs := [rr0, rr1, rr2, rr3, rr4, rr5, rr6, rr7, rr8, rr9, rr10, rr11, rr12, rr13, rr14, rr15, rr16, rr17, rr18, rr19, rr20, rr21, rr22, rr23, rr24, rr25]) (List.forall_mem_cons.2 ⟨rk0 hx, List.forall_mem_cons.2 ⟨rk1 hx, List.forall_mem_cons.2 ⟨rk2 hx, List.forall_mem_cons.2 ⟨rk3 hx, List.forall_mem_cons.2 ⟨rk4 hx, List.forall_mem_cons.2 ⟨rk5 hx, List.forall_mem_cons.2 ⟨rk6 hx, List.forall_mem_cons.2 ⟨rk7 hx, List.forall_mem_cons.2 ⟨rk8 hx, List.forall_mem_cons.2 ⟨rk9 hx, List.forall_mem_cons.2 ⟨rk10 hx, List.forall_mem_cons.2 ⟨rk11 hx, List.forall_mem_cons.2 ⟨rk12 hx, List.forall_mem_cons.2 ⟨rk13 hx, List.forall_mem_cons.2 ⟨rk14 hx, List.forall_mem_cons.2 ⟨rk15 hx, List.forall_mem_cons.2 ⟨rk16 hx, List.forall_mem_cons.2 ⟨rk17 hx, List.forall_mem_cons.2 ⟨rk18 hx, List.forall_mem_cons.2 ⟨rk19 hx, List.forall_mem_cons.2 ⟨rk20 hx, List.forall_mem_cons.2 ⟨rk21 hx, List.forall_mem_cons.2 ⟨rk22 hx, List.forall_mem_cons.2 ⟨rk23 hx, List.forall_mem_cons.2 ⟨rk24 hx, List.forall_mem_cons.2 ⟨rk25 hx, List.forall_mem_nil _⟩⟩⟩⟩⟩⟩⟩⟩⟩⟩⟩⟩⟩⟩⟩⟩⟩⟩⟩⟩⟩⟩⟩⟩⟩⟩) rt26
end Go.Proofs.YtoobchopgbgepaaGreatDoor
