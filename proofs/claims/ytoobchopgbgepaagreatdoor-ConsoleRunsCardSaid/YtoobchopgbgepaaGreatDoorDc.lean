/- The door lays what is listed. No condition. -/
import Derived.Test.YtoobchopgbgepaaGreatDoorDa
import Derived.Test.YtoobchopgbgepaaGreatDoorDb
import Derived.Test.YtoobchopgbgepaaGreatDoorAl
namespace Go.Proofs.YtoobchopgbgepaaGreatDoor
open Go
set_option maxRecDepth 1000000
theorem cls584 : Tryz.prog.closure 584 = [584] := Go.Lite.closure_short adjOk (n := 1) (by rw [adjSize]; decide) (by kernel_rfl)
def clS : List (Nat × List Nat) := [(584, [584])]
theorem clSOk : ∀ p ∈ clS, Tryz.prog.closure p.1 = p.2 := List.forall_mem_cons.2 ⟨cls584, List.forall_mem_nil _⟩
def laidL : List (String × DataW Unit) := [("internal/strconv.uint64pow10", Rows.laid_internal_strconv_uint64pow10), ("math/bits.deBruijn32tab", Rows.laid_math_bits_deBruijn32tab), ("math/bits.deBruijn64tab", Rows.laid_math_bits_deBruijn64tab), ("unicode/utf8.acceptRanges", Rows.laid_unicode_utf8_acceptRanges), ("strconv.ErrSyntax", Rows.laid_strconv_ErrSyntax), ("strconv.ErrRange", Rows.laid_strconv_ErrRange)]
theorem tk : laidL.map (fun x => Tryz.prog.kindOfLater x.1) = ([.data, .data, .data, .data, .sentinel, .sentinel] : List LaidKind).map some := Go.Lite.kinds_of doorOk (by kernel_rfl)
theorem fitOk : Go.Lite.fitF Tryz.prog doorL (Go.Lite.clT Tryz.prog clS) laidL Tryz.f750 = true := by kernel_rfl
theorem tn : varsNamedLaterB Tryz.prog (varsId Tryz.prog) laidL = true := by
  have e : varsId Tryz.prog = 750 := Option.some.inj ((varsId_spec (by rw [vId]; rfl)).symm.trans vId)
  rw [e]
  exact Go.Lite.named_of doorOk (Go.Lite.clT_eq clSOk) Tryz.func750 fitOk
end Go.Proofs.YtoobchopgbgepaaGreatDoor
