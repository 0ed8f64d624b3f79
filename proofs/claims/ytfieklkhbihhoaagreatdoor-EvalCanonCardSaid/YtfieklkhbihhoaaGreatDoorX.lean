/- Functions that are told row by row. No condition. -/
import Derived.Test.YtfieklkhbihhoaaGreatDoorVc
namespace Go.Vm
open Go Go.RowKit Go.Proofs Go.Shelf
variable [Syms]
variable {P : Program} {mid : String → Option Nat} {mt : List (Nat × Nat × Nat)} {ρ ρ' : Rho} {H0 lf : Nat} {m m' : Mem} {w w' W W0 : World}
noncomputable def primL (rows : List (List AV × AV)) (xs : List AV) (m : Mem) : Option (AV × Mem) :=
  List.rec none (fun r _ ih => Bool.rec ih (some (r.2, m)) (sames xs r.1)) rows
 omit [Syms] in
theorem primL_cons {r : List AV × AV} {rows : List (List AV × AV)} {xs : List AV} {m : Mem} : primL (r :: rows) xs m = if sames xs r.1 = true then some (r.2, m) else primL rows xs m := by
  show (Bool.rec (primL rows xs m) (some (r.2, m)) (sames xs r.1) : Option (AV × Mem)) = _
  cases sames xs r.1 <;> rfl
 omit [Syms] in
theorem primL_mem {xs : List AV} {m m' : Mem} {v : AV} : ∀ {rows : List (List AV × AV)}, primL rows xs m = some (v, m') → (xs, v) ∈ rows ∧ m' = m
  | [], h => by cases h
  | r :: rows, h => by
    rw [primL_cons] at h
    split at h
    · rename_i hs
      cases h
      exact ⟨by rw [sames_eq _ _ hs]; exact List.mem_cons_self, rfl⟩
    · exact ⟨List.mem_cons_of_mem _ (primL_mem h).1, (primL_mem h).2⟩
theorem prim_l {f : Nat} {rows : List (List AV × AV)} (hen : ∀ args w, (callFunc f args).run P w = .ok (.enter f args) w)
    (h : ∀ r ∈ rows, ∀ (ρ : Rho) (args : Array Value) (W : World), VRs ρ r.1 args.toList → Calls P f args W fun e W' => (∃ u, e = .returned u ∧ ∀ ρ : Rho, VR ρ r.2 u) ∧ Below W.heap.size W W') :
    EntOk P mid H0 W0 f (.prim (primL rows)) := by
  intro xs m v1 m1 ρ w args hW hG hB hv hp
  obtain ⟨hr, rfl⟩ := primL_mem hp
  refine .inl ⟨hen _ _, (h _ hr ρ args w hv).mono ?_⟩
  rintro e w' ⟨⟨u, rfl, hu⟩, hb⟩
  exact ⟨u, ρ, rfl, hu ρ, hW.later hb, ⟨Rho.le_refl _, Nat.le_refl _, fun _ _ h => ⟨h, rfl⟩, hb.mono hW.le⟩⟩
/-- a table with other words for two functions -/
noncomputable def fsX (fs : Nat → Option FEnt) (f g : Nat) (c v : List (List AV × AV)) (k : Nat) : Option FEnt :=
  Bool.rec (Bool.rec (fs k) (some (.prim (primL v))) (Nat.beq k g)) (some (.prim (primL c))) (Nat.beq k f)
 omit [Syms] in
theorem fsX_eq {fs : Nat → Option FEnt} {f g : Nat} {c v : List (List AV × AV)} {k : Nat} : fsX fs f g c v k = if k = f then some (.prim (primL c)) else if k = g then some (.prim (primL v)) else fs k := by
  unfold fsX
  by_cases h : k = f
  · rw [if_pos h, show Nat.beq k f = true from by rw [h]; exact Nat.beq_refl f]
  · rw [if_neg h, show Nat.beq k f = false from Bool.eq_false_iff.2 fun e => h (Nat.eq_of_beq_eq_true e)]
    by_cases h2 : k = g
    · rw [if_pos h2, show Nat.beq k g = true from by rw [h2]; exact Nat.beq_refl g]
    · rw [if_neg h2, show Nat.beq k g = false from Bool.eq_false_iff.2 fun e => h2 (Nat.eq_of_beq_eq_true e)]
theorem fsX_ok {fs : Nat → Option FEnt} {f g : Nat} {c v : List (List AV × AV)} (h : FsOk P mid H0 W0 fs) (hf : EntOk P mid H0 W0 f (.prim (primL c))) (hg : EntOk P mid H0 W0 g (.prim (primL v))) : FsOk P mid H0 W0 (fsX fs f g c v) := by
  constructor
  · intro k fn hk
    rw [fsX_eq] at hk
    split at hk
    · cases hk
    · split at hk
      · cases hk
      · exact h.code k fn hk
  · intro k p hk
    rw [fsX_eq] at hk
    split at hk
    · rename_i e; cases hk; subst e; exact hf
    · split at hk
      · rename_i e; cases hk; subst e; exact hg
      · exact h.prim k p hk
theorem TabAt.later {g : Nat} {c : List AV} (h : TabAt P W g c) (hsz : P.globals.size ≤ W.heap.size) (hb : Below W.heap.size W w) : TabAt P w g c := by
  obtain ⟨h1, C, t, fr, h2, h3⟩ := h
  exact ⟨h1, C, t, fr, (hb.block g (Nat.lt_of_lt_of_le h1 hsz)).trans h2, h3⟩
end Go.Vm
