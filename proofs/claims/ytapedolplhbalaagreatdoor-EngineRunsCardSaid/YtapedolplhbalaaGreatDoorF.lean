/- What is recorded is the model's. No condition. -/
import Derived.Test.YtapedolplhbalaaGreatDoorEa
import Derived.Test.YtapedolplhbalaaGreatDoorEb
import Derived.Test.YtapedolplhbalaaGreatDoorEc
import Derived.Test.YtapedolplhbalaaGreatDoorEd
import Derived.Test.YtapedolplhbalaaGreatDoorEe
import Derived.Test.YtapedolplhbalaaGreatDoorEf
import Derived.Test.YtapedolplhbalaaGreatDoorEg
namespace Go.Proofs.YtapedolplhbalaaGreatDoor
open Go Go.Vm Go.RowKit
theorem rk0 {H0 : Nat} {W0 : World} (hx : Prims H0 W0) : RecOk Tryz.prog H0 W0 rr0 := rec_of (n := 200) mixed mtOk (fsOk hx) (rs := []) (List.forall_mem_nil _) rt0
theorem rk1 {H0 : Nat} {W0 : World} (hx : Prims H0 W0) : RecOk Tryz.prog H0 W0 rr1 := rec_of (n := 200) mixed mtOk (fsOk hx) (rs := []) (List.forall_mem_nil _) rt1
theorem rk2 {H0 : Nat} {W0 : World} (hx : Prims H0 W0) : RecOk Tryz.prog H0 W0 rr2 := rec_of (n := 200) mixed mtOk (fsOk hx) (rs := []) (List.forall_mem_nil _) rt2
theorem rk3 {H0 : Nat} {W0 : World} (hx : Prims H0 W0) : RecOk Tryz.prog H0 W0 rr3 := rec_of (n := 200) mixed mtOk (fsOk hx) (rs := []) (List.forall_mem_nil _) rt3
theorem rk4 {H0 : Nat} {W0 : World} (hx : Prims H0 W0) : RecOk Tryz.prog H0 W0 rr4 := rec_of (n := 200) mixed mtOk (fsOk hx) (rs := []) (List.forall_mem_nil _) rt4
theorem rk5 {H0 : Nat} {W0 : World} (hx : Prims H0 W0) : RecOk Tryz.prog H0 W0 rr5 := rec_of (n := 200) mixed mtOk (fsOk hx) (rs := []) (List.forall_mem_nil _) rt5
theorem rk6 {H0 : Nat} {W0 : World} (hx : Prims H0 W0) : RecOk Tryz.prog H0 W0 rr6 := rec_of (n := 200) mixed mtOk (fsOk hx) (rs := []) (List.forall_mem_nil _) rt6
theorem rk7 {H0 : Nat} {W0 : World} (hx : Prims H0 W0) : RecOk Tryz.prog H0 W0 rr7 := rec_of (n := 200) mixed mtOk (fsOk hx) (rs := []) (List.forall_mem_nil _) rt7
theorem rk8 {H0 : Nat} {W0 : World} (hx : Prims H0 W0) : RecOk Tryz.prog H0 W0 rr8 := rec_of (n := 200) mixed mtOk (fsOk hx) (rs := []) (List.forall_mem_nil _) rt8
theorem rk9 {H0 : Nat} {W0 : World} (hx : Prims H0 W0) : RecOk Tryz.prog H0 W0 rr9 := rec_of (n := 200) mixed mtOk (fsOk hx) (rs := []) (List.forall_mem_nil _) rt9
theorem rk10 {H0 : Nat} {W0 : World} (hx : Prims H0 W0) : RecOk Tryz.prog H0 W0 rr10 := rec_of (n := 200) mixed mtOk (fsOk hx) (rs := []) (List.forall_mem_nil _) rt10
theorem rk11 {H0 : Nat} {W0 : World} (hx : Prims H0 W0) : RecOk Tryz.prog H0 W0 rr11 := rec_of (n := 200) mixed mtOk (fsOk hx) (rs := []) (List.forall_mem_nil _) rt11
theorem rk12 {H0 : Nat} {W0 : World} (hx : Prims H0 W0) : RecOk Tryz.prog H0 W0 rr12 := rec_of (n := 200) mixed mtOk (fsOk hx) (rs := []) (List.forall_mem_nil _) rt12
theorem rk13 {H0 : Nat} {W0 : World} (hx : Prims H0 W0) : RecOk Tryz.prog H0 W0 rr13 := rec_of (n := 200) mixed mtOk (fsOk hx) (rs := []) (List.forall_mem_nil _) rt13
theorem rk14 {H0 : Nat} {W0 : World} (hx : Prims H0 W0) : RecOk Tryz.prog H0 W0 rr14 := rec_of (n := 200) mixed mtOk (fsOk hx) (rs := []) (List.forall_mem_nil _) rt14
theorem rk15 {H0 : Nat} {W0 : World} (hx : Prims H0 W0) : RecOk Tryz.prog H0 W0 rr15 := rec_of (n := 200) mixed mtOk (fsOk hx) (rs := [rr0, rr1, rr2, rr3, rr4, rr5, rr6, rr7, rr8, rr9, rr10, rr11, rr12, rr13, rr14]) (List.forall_mem_cons.2 ⟨rk0 hx, List.forall_mem_cons.2 ⟨rk1 hx, List.forall_mem_cons.2 ⟨rk2 hx, List.forall_mem_cons.2 ⟨rk3 hx, List.forall_mem_cons.2 ⟨rk4 hx, List.forall_mem_cons.2 ⟨rk5 hx, List.forall_mem_cons.2 ⟨rk6 hx, List.forall_mem_cons.2 ⟨rk7 hx, List.forall_mem_cons.2 ⟨rk8 hx, List.forall_mem_cons.2 ⟨rk9 hx, List.forall_mem_cons.2 ⟨rk10 hx, List.forall_mem_cons.2 ⟨rk11 hx, List.forall_mem_cons.2 ⟨rk12 hx, List.forall_mem_cons.2 ⟨rk13 hx, List.forall_mem_cons.2 ⟨rk14 hx, List.forall_mem_nil _⟩⟩⟩⟩⟩⟩⟩⟩⟩⟩⟩⟩⟩⟩⟩) rt15
end Go.Proofs.YtapedolplhbalaaGreatDoor
