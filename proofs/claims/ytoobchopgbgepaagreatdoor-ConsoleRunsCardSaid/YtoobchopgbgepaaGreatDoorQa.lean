/- Closed facts of the row of 'ConsoleRuns', part 1: the types are laid out. No condition. -/
import Derived.Test.YtoobchopgbgepaaGreatDoorCards
import Derived.JoinedCond
import Derived.SevenTiedAt
import Derived.KernelRfl
namespace Go.Proofs.YtoobchopgbgepaaGreatDoor.consoleRuns
open Go
set_option maxRecDepth 1000000
theorem la_size : Tryz.pinned.checked.prog.types.size = 685 := by kernel_rfl
noncomputable def laB (b : Nat) : Bool := (List.range 64).all fun j => Nat.ble 685 (64 * b + j) || rowFine Tryz.pinned.checked.prog (64 * b + j)
theorem la0 : laB 0 = true := by kernel_rfl
theorem la1 : laB 1 = true := by kernel_rfl
theorem la2 : laB 2 = true := by kernel_rfl
theorem la3 : laB 3 = true := by kernel_rfl
theorem la4 : laB 4 = true := by kernel_rfl
theorem la5 : laB 5 = true := by kernel_rfl
theorem la6 : laB 6 = true := by kernel_rfl
theorem la7 : laB 7 = true := by kernel_rfl
theorem la8 : laB 8 = true := by kernel_rfl
theorem la9 : laB 9 = true := by kernel_rfl
theorem la10 : laB 10 = true := by kernel_rfl
theorem la_g : (Tryz.pinned.checked.prog.globals.all fun g => decide (g.type < Tryz.pinned.checked.prog.types.size)) = true := by kernel_rfl
theorem la_f : (Tryz.pinned.checked.prog.funcs.all fun f => f.params.all fun t => decide (t < Tryz.pinned.checked.prog.types.size)) = true := by kernel_rfl
theorem la_all : ∀ b, b < 11 → laB b = true
  | 0, _ => la0 | 1, _ => la1 | 2, _ => la2 | 3, _ => la3 | 4, _ => la4 | 5, _ => la5 | 6, _ => la6 | 7, _ => la7 | 8, _ => la8 | 9, _ => la9 | 10, _ => la10
  | k + 11, h => absurd h (by omega)
theorem q1 : (laidOutB Tryz.pinned.checked.prog) = true := by
  unfold laidOutB
  rw [la_g, la_f, Bool.and_true, Bool.and_true, la_size, List.all_eq_true]
  intro t ht
  have ht := List.mem_range.1 ht
  have h := la_all (t / 64) (by omega)
  unfold laB at h
  rw [List.all_eq_true] at h
  have h := h (t % 64) (List.mem_range.2 (Nat.mod_lt _ (by decide)))
  rw [Nat.div_add_mod, Bool.or_eq_true] at h
  rcases h with h | h
  · exact absurd (Nat.le_of_ble_eq_true h) (by omega)
  · exact h
end Go.Proofs.YtoobchopgbgepaaGreatDoor.consoleRuns
