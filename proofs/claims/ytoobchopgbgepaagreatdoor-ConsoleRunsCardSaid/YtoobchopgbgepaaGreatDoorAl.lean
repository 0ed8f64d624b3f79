/- The table of where each function leads to is the program's. No condition. -/
import Derived.Test.YtoobchopgbgepaaGreatDoorAka
import Derived.Test.YtoobchopgbgepaaGreatDoorAkb
import Derived.Test.YtoobchopgbgepaaGreatDoorAkc
import Derived.Test.YtoobchopgbgepaaGreatDoorAkd
namespace Go.Proofs.YtoobchopgbgepaaGreatDoor
open Go
set_option maxRecDepth 1000000
theorem adjAll : ∀ b ∈ [0, 1, 2, 3, 4, 5, 6, 7, 8, 9, 10, 11, 12, 13, 14, 15, 16, 17, 18, 19, 20, 21, 22, 23], adjB b = true := List.forall_mem_cons.2 ⟨adjC0, List.forall_mem_cons.2 ⟨adjC1, List.forall_mem_cons.2 ⟨adjC2, List.forall_mem_cons.2 ⟨adjC3, List.forall_mem_cons.2 ⟨adjC4, List.forall_mem_cons.2 ⟨adjC5, List.forall_mem_cons.2 ⟨adjC6, List.forall_mem_cons.2 ⟨adjC7, List.forall_mem_cons.2 ⟨adjC8, List.forall_mem_cons.2 ⟨adjC9, List.forall_mem_cons.2 ⟨adjC10, List.forall_mem_cons.2 ⟨adjC11, List.forall_mem_cons.2 ⟨adjC12, List.forall_mem_cons.2 ⟨adjC13, List.forall_mem_cons.2 ⟨adjC14, List.forall_mem_cons.2 ⟨adjC15, List.forall_mem_cons.2 ⟨adjC16, List.forall_mem_cons.2 ⟨adjC17, List.forall_mem_cons.2 ⟨adjC18, List.forall_mem_cons.2 ⟨adjC19, List.forall_mem_cons.2 ⟨adjC20, List.forall_mem_cons.2 ⟨adjC21, List.forall_mem_cons.2 ⟨adjC22, List.forall_mem_cons.2 ⟨adjC23, List.forall_mem_nil _⟩⟩⟩⟩⟩⟩⟩⟩⟩⟩⟩⟩⟩⟩⟩⟩⟩⟩⟩⟩⟩⟩⟩⟩
theorem adjOk : ∀ f : Nat, (Tryz.prog.funcs[f]?).elim [] Tryz.prog.leadsTo = adj f := by
  refine Go.Lite.adj_of adjSize (fun f hf => ?_) (fun f hf => ?_)
  · have hb : f / 32 ∈ [0, 1, 2, 3, 4, 5, 6, 7, 8, 9, 10, 11, 12, 13, 14, 15, 16, 17, 18, 19, 20, 21, 22, 23] := by
      have : f / 32 < 24 := by omega
      revert this
      generalize f / 32 = b
      intro hb
      have : ∀ b, b < 24 → b ∈ [0, 1, 2, 3, 4, 5, 6, 7, 8, 9, 10, 11, 12, 13, 14, 15, 16, 17, 18, 19, 20, 21, 22, 23] := by decide
      exact this b hb
    have h := adjAll _ hb
    unfold adjB at h
    rw [List.all_eq_true] at h
    have h := h (f % 32) (List.mem_range.2 (Nat.mod_lt _ (by decide)))
    rw [Nat.div_add_mod] at h
    exact eq_of_beq h
  · have h32 : 24 ≤ f / 32 ∨ f / 32 = 23 ∧ 15 ≤ f % 32 := by omega
    unfold adj Go.Lite.rowsAdj
    rcases h32 with h | ⟨h, h2⟩
    · rw [List.getElem?_eq_none (show adjR.length ≤ f / 32 from h)]
      rfl
    · rw [h]
      have e : (adjR[23]?).map List.length = some 15 := rfl
      cases hr : adjR[23]? with
      | none => rfl
      | some r =>
        rw [hr] at e
        simp only [Option.map_some, Option.some.injEq] at e
        simp only [Option.bind_some]
        rw [List.getElem?_eq_none (by omega)]
        rfl
end Go.Proofs.YtoobchopgbgepaaGreatDoor
