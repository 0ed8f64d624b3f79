/- The door lays what is listed. No condition. -/
import Derived.Test.YtapedolplhbalaaGreatDoorDa
import Derived.Test.YtapedolplhbalaaGreatDoorDb
import Derived.Test.YtapedolplhbalaaGreatDoorAl
namespace Go.Proofs.YtapedolplhbalaaGreatDoor
open Go
set_option maxRecDepth 1000000
theorem cls89 : Tryz.prog.closure 89 = [89] := Go.Lite.closure_short adjOk (n := 1) (by rw [adjSize]; decide) (by kernel_rfl)
theorem cls565 : Tryz.prog.closure 565 = [565] := Go.Lite.closure_short adjOk (n := 1) (by rw [adjSize]; decide) (by kernel_rfl)
def clS : List (Nat × List Nat) := [(89, [89]), (565, [565])]
theorem clSOk : ∀ p ∈ clS, Tryz.prog.closure p.1 = p.2 := List.forall_mem_cons.2 ⟨cls89, List.forall_mem_cons.2 ⟨cls565, List.forall_mem_nil _⟩⟩
def laidL : List (String × DataW Unit) := [("unicode/utf8.acceptRanges", Rows.laid_unicode_utf8_acceptRanges), ("strconv.ErrSyntax", Rows.laid_strconv_ErrSyntax), ("strconv.ErrRange", Rows.laid_strconv_ErrRange), ("internal/strconv.uint64pow10", Rows.laid_internal_strconv_uint64pow10), ("math/bits.deBruijn32tab", Rows.laid_math_bits_deBruijn32tab), ("math/bits.deBruijn64tab", Rows.laid_math_bits_deBruijn64tab), ("errors.errorType", Rows.laid_errors_errorType)]
theorem tk : laidL.map (fun x => Tryz.prog.kindOfLater x.1) = ([.data, .sentinel, .sentinel, .data, .data, .data, .handle] : List LaidKind).map some := Go.Lite.kinds_of doorOk (by kernel_rfl)
theorem fitOk : Go.Lite.fitF Tryz.prog doorL (Go.Lite.clT Tryz.prog clS) laidL Tryz.f723 = true := by kernel_rfl
theorem tn : varsNamedLaterB Tryz.prog (varsId Tryz.prog) laidL = true := by
  have e : varsId Tryz.prog = 723 := Option.some.inj ((varsId_spec (by rw [vId]; rfl)).symm.trans vId)
  rw [e]
  exact Go.Lite.named_of doorOk (Go.Lite.clT_eq clSOk) Tryz.func723 fitOk
end Go.Proofs.YtapedolplhbalaaGreatDoor
