/- A machine of abstract values that runs the program's code as the model does, whatever the tape draws: its soundness, part 2. No condition. -/
import Derived.Test.YtoobchopgbgepaaGreatDoorVa
import Derived.Laws.MakeOwn
import Derived.IntWalk
import Derived.Laws.NewFold
import Derived.Lib.UnsafeStr
import Derived.Orders
import Derived.Recover
namespace Go.Vm
open Go Go.RowKit
variable {P : Program} {ρ ρ' : Rho} {H0 : Nat} {m m' : Mem} {w w' : World}
def Rho.put (ρ : Rho) (b : Nat) (L : Loc) : Rho := fun x => if x = b then some L else ρ x
theorem Rho.put_at (ρ : Rho) (b : Nat) (L : Loc) : ρ.put b L b = some L := by simp [Rho.put]
theorem Rho.put_ne (ρ : Rho) {b x : Nat} (L : Loc) (h : x ≠ b) : ρ.put b L x = ρ x := by simp [Rho.put, h]
theorem Rho.le_put (ρ : Rho) {b : Nat} (L : Loc) (h : ρ b = none) : Rho.le ρ (ρ.put b L) := by
 intro x K hx
 by_cases e : x = b
 ·subst e; rw [h] at hx; cases hx
 ·rw [ρ.put_ne L e]; exact hx
def Plain (B : ABlk) : Prop := ∀ cls st ro fz c, B = .cells cls st ro fz c → cls = 0
theorem WR.newB (h : WR ρ H0 m w) {B : ABlk} (hB : Plain B) : WR ρ H0 (newB m B) w := by
 have hnx : ρ m.nx = none := by
  cases e : ρ m.nx with
  | none => rfl
  | some L => exact absurd (h.dom _ _ e).2 (Nat.lt_irrefl _)
 have hg : ∀ x, x ≠ m.nx → (Vm.newB m B).bl.get x = m.bl.get x := by intro x hx; simp [Vm.newB, T.get_set, hx]
 have hne : ∀ x L, ρ x = some L → x ≠ m.nx := by intro x L hx e; subst e; rw [hnx] at hx; cases hx
 refine ⟨?_, ?_, ?_, ?_, ?_, ?_, ?_, h.le⟩
 ·intro x C L hC hL; rw [hg x (hne x L hL)] at hC; exact h.blk x C L hC hL
 ·intro x L hL; exact ⟨(h.dom x L hL).1, Nat.lt_succ_of_lt (h.dom x L hL).2⟩
 ·intro x C hC
  by_cases e : x = m.nx
  ·subst e; exact Nat.lt_succ_self _
  ·rw [hg x e] at hC; exact Nat.lt_succ_of_lt (h.live x C hC)
 ·intro x y C D K M hxy hC hD hK hM
  rw [hg x (hne x K hK)] at hC; rw [hg y (hne y M hM)] at hD
  exact h.inj x y C D K M hxy hC hD hK hM
 ·intro x cls st ro fz c hC hc
  by_cases e : x = m.nx
  ·subst e
   simp only [Vm.newB, T.get_set, if_true, Option.some.injEq] at hC
   exact absurd (hB cls st ro fz c hC) hc
  ·rw [hg x e] at hC; exact h.cls x cls st ro fz c hC hc
 ·exact h.cld
 ·intro x C L hC hL; rw [hg x (hne x L hL)] at hC; exact h.low x C L hC hL
theorem alloc_get (w : World) (O : Obj) : (w.alloc O).heap[w.heap.size]? = some O := by
 show (w.heap.push O)[w.heap.size]? = some O
 simp
theorem alloc_old (w : World) (O : Obj) (k : Nat) (h : k < w.heap.size) : (w.alloc O).heap[k]? = w.heap[k]? := Below.heap_alloc w O k h
theorem alloc_size (w : World) (O : Obj) : (w.alloc O).heap.size = w.heap.size + 1 := by
 show (w.heap.push O).size = _
 simp
theorem WR.alloc (h : WR ρ H0 m w) {b room : Nat} {B : ABlk} {O : Obj} (hb : m.bl.get b = some B) (hρ : ρ b = none) (_ : Plain B)
 (hB : BlkR (ρ.put b ⟨w.heap.size, 0, room⟩) B ⟨w.heap.size, 0, room⟩ (w.alloc O)) : WR (ρ.put b ⟨w.heap.size, 0, room⟩) H0 m (w.alloc O) := by
 have hle := ρ.le_put ⟨w.heap.size, 0, room⟩ hρ
 have hold : ∀ x L, x ≠ b → (ρ.put b ⟨w.heap.size, 0, room⟩) x = some L → ρ x = some L := by intro x L hx hL; rw [ρ.put_ne _ hx] at hL; exact hL
 refine ⟨?_, ?_, h.live, ?_, h.cls, ?_, ?_, ?_⟩
 ·intro x C L hC hL
  by_cases e : x = b
  ·subst e; rw [hb] at hC; cases hC; rw [ρ.put_at] at hL; cases hL; exact hB
  ·have hL' := hold x L e hL
   exact ((h.blk x C L hC hL').same (alloc_old w O _ (h.dom x L hL').1)).mono hle
 ·intro x L hL
  by_cases e : x = b
  ·subst e; rw [ρ.put_at] at hL; cases hL
   exact ⟨by rw [alloc_size]; exact Nat.lt_succ_self _, h.live x B hb⟩
  ·have hL' := hold x L e hL
   exact ⟨by rw [alloc_size]; exact Nat.lt_succ_of_lt (h.dom x L hL').1, (h.dom x L hL').2⟩
 ·intro x y C D K M hxy hC hD hK hM he
  by_cases ex : x = b
  ·subst ex
   rw [ρ.put_at] at hK; cases hK
   have hM' := hold y M (Ne.symm hxy) hM
   have := (h.dom y M hM').1
   simp only at he; omega
  ·by_cases ey : y = b
   ·subst ey
    rw [ρ.put_at] at hM; cases hM
    have hK' := hold x K ex hK
    have := (h.dom x K hK').1
    simp only at he; omega
   ·exact h.inj x y C D K M hxy hC hD (hold x K ex hK) (hold y M ey hM) he
 ·intro cls ids x hi hx e
  have := h.cld cls ids x hi hx
  by_cases ex : x = b
  ·subst ex; exact this hρ
  ·rw [ρ.put_ne _ ex] at e; exact this e
 ·intro x C L hC hL hlt
  by_cases e : x = b
  ·subst e; rw [ρ.put_at] at hL; cases hL
   have := h.le
   simp only at hlt; omega
  ·exact h.low x C L hC (hold x L e hL) hlt
 ·rw [alloc_size]; have := h.le; omega
theorem below_alloc (h : WR ρ H0 m w) (O : Obj) : Below H0 w (w.alloc O) := (Below.refl H0 w).alloc h.le O
theorem clean_blk {fz : Nat} {l : List AV} {cs : Array Value} {t : TypeId} {L : Loc} {w : World} (h : w.heap[L.blk]? = some (.cells cs t (0, 0))) (hoff : L.off = 0) (hroom : L.room ≤ cs.size) (hv : VRs ρ l (cs.toList.take l.length)) (hl : l.length ≤ L.room)
 (ht : TagR fz t l.length L cs) : BlkR ρ (.cells 0 0 false fz l) L w := by
 refine ⟨cs, t, (0, 0), h, ⟨by omega, hl, ?_, by intro _ i _; simp, fun _ => rfl, ht⟩⟩
 intro i a hi
 obtain ⟨v, h1, h2⟩ := hv.get hi
 have hil : i < l.length := (List.getElem?_eq_some_iff.1 hi).1
 rw [List.getElem?_take, if_pos hil] at h1
 exact ⟨v, by rw [hoff, Nat.zero_add, ← Array.getElem?_toList]; exact h1, h2⟩
theorem tag_row (t n : Nat) (L : Loc) (C : Array Value) : TagR (4 * t + 3) t n L C := ⟨fun s e => by omega, fun s e => by omega⟩
theorem rowOf_blk {l : List AV} {cs : Array Value} {t : TypeId} {L : Loc} {w : World} (h : w.heap[L.blk]? = some (.cells cs t (0, 0))) (hoff : L.off = 0) (hroom : L.room ≤ cs.size) (hv : VRs ρ l (cs.toList.take l.length)) (hl : l.length ≤ L.room) : BlkR ρ (rowOf t l) L w :=
 clean_blk h hoff hroom hv hl (tag_row t _ _ _)
theorem wholeOf_blk {l : List AV} {cs : Array Value} {t : TypeId} {L : Loc} {w : World} (h : w.heap[L.blk]? = some (.cells cs t (0, 0))) (hoff : L.off = 0) (hroom : L.room ≤ cs.size) (hv : VRs ρ l (cs.toList.take l.length)) (hl : l.length ≤ L.room) (hn : cs.size = l.length) : BlkR ρ (wholeOf t l) L w :=
 clean_blk h hoff hroom hv hl ⟨fun s e => by omega, fun s e => ⟨by omega, hoff, hn⟩⟩
theorem plain_row (t : Nat) (l : List AV) : Plain (rowOf t l) := by intro cls st ro fz c h; cases h; rfl
theorem plain_whole (t : Nat) (l : List AV) : Plain (wholeOf t l) := by intro cls st ro fz c h; cases h; rfl
theorem r_newRow (t : TypeId) (cs : Array Value) (w : World) : (newRow t cs).run P w = .ok ⟨w.heap.size, 0, none⟩ (w.alloc (.cells cs t)) := rfl
end Go.Vm

namespace Go.Vm
open Go Go.RowKit
variable {P : Program} {mid : String → Option Nat} {ρ ρ' : Rho} {H0 : Nat} {m m' : Mem} {w w' : World} {e : Env} {loc : List AV} {σ : Operand → Option Opd} {ev : Operand → Value}
def Makes (P : Program) (ρ : Rho) (H0 : Nat) (m : Mem) (w : World) (b : Nat) (s : Sem Value) (a : AV) : Prop :=
 ∃ v w' L, s.run P w = .ok v w' ∧ WR (ρ.put b L) H0 m w' ∧ Below H0 w w' ∧ VR (ρ.put b L) a v
theorem makes_row (hW : WR ρ H0 m w) {b : Nat} {B : ABlk} (hb : m.bl.get b = some B) (hρ : ρ b = none) {l : List AV} {t : TypeId} (hB : B = rowOf t l ∨ B = wholeOf t l) {cs : Array Value} (hv : VRs ρ l cs.toList) (w1 : World) (h1 : w1.heap = w.heap) (h2 : Below H0 w w1) :
 WR (ρ.put b ⟨w.heap.size, 0, cs.size⟩) H0 m (w1.alloc (.cells cs t)) ∧ Below H0 w (w1.alloc (.cells cs t)) := by
 have hW1 := hW.heap h1
 have hs : w1.heap.size = w.heap.size := by rw [h1]
 have hlen : l.length = cs.size := by have := hv.length; simpa using this
 refine ⟨?_, h2.trans (below_alloc hW1 _)⟩
 have hp : Plain B := by
  rcases hB with rfl | rfl
  ·exact plain_row t l
  ·exact plain_whole t l
 have hk : VRs (ρ.put b ⟨w1.heap.size, 0, cs.size⟩) l (cs.toList.take l.length) := by rw [List.take_of_length_le (by simp; omega)]; exact hv.mono (ρ.le_put _ hρ)
 have := WR.alloc hW1 (room := cs.size) (O := .cells cs t) hb hρ hp (by
  rcases hB with rfl | rfl
  ·exact rowOf_blk (alloc_get w1 _) rfl (Nat.le_refl _) hk (by simp; omega)
  ·exact wholeOf_blk (alloc_get w1 _) rfl (Nat.le_refl _) hk (by simp; omega) hlen.symm)
 rw [hs] at this
 exact this
theorem aZer_sound {t : TypeId} {z l : List AV} {b : Nat} {B : ABlk} {g : Nat → AV} (hW : WR ρ H0 m w) (hb : m.bl.get b = some B) (hρ : ρ b = none) (hz : zeroC P t = some z) (h : aZer t z l = some (B, g)) :
 Makes P ρ H0 m w b (Instr.alloc t true (.tuple #[])) (g b) := by
 obtain ⟨zv, hzv, hzr⟩ := zeroC_sound ρ hz
 unfold aZer at h
 split at h
 ·cases h
  obtain ⟨h1, h2⟩ := makes_row hW hb hρ (Or.inr rfl) (t := t) (cs := zv.cells) hzr w rfl (Below.refl _ _)
  refine ⟨.pointer (some ⟨w.heap.size, 0, none⟩), _, _, ?_, h1, h2, ?_⟩
  ·simp only [Instr.alloc, Sem.run_bind, r_zero w hzv, Result.andThen_ok, newVar, r_newRow, Sem.run_pure]
  ·exact .ptr b 0 ⟨w.heap.size, 0, zv.cells.size⟩ (ρ.put_at _ _)
 ·cases h
theorem aBox_sound {t : TypeId} {n : Nat} {l : List AV} {u : Value} {b : Nat} {B : ABlk} {g : Nat → AV} (hW : WR ρ H0 m w) (hb : m.bl.get b = some B) (hρ : ρ b = none) (hv : VRs ρ l [u]) (h : aBox t n l = some (B, g)) :
 Makes P ρ H0 m w b (Instr.box t u) (g b) := by
 unfold aBox at h
 split at h
 ·obtain ⟨hn, h⟩ := ite'_some h
  cases h
  cases hv with
  | cons _ _ _ _ hx _ =>
   obtain ⟨h1, h2⟩ := makes_row hW hb hρ (Or.inr rfl) (t := t) (cs := u.cells) hx.cells w rfl (Below.refl _ _)
   refine ⟨.pointer (some ⟨w.heap.size, 0, none⟩), _, _, ?_, h1, h2, ?_⟩
   ·simp only [Instr.box, Sem.run_bind, Result.andThen_ok, newVar, r_newRow, Sem.run_pure]
   ·exact .ptr b 0 ⟨w.heap.size, 0, u.cells.size⟩ (ρ.put_at _ _)
 ·cases h
theorem repl_length (z : List AV) : ∀ n, (repl n z).length = n * z.length
 | 0 => by simp [repl]
 | n + 1 => by simp [repl, repl_length z n, Nat.succ_mul, Nat.add_comm]
theorem repl_get (z : List AV) : ∀ (n i : Nat), i < n * z.length → (repl n z)[i]? = z[i % z.length]?
 | 0, i, h => by simp at h
 | n + 1, i, h => by
  simp only [repl, ap_eq]
  by_cases hi : i < z.length
  ·rw [List.getElem?_append_left hi, Nat.mod_eq_of_lt hi]
  ·rw [List.getElem?_append_right (by omega), repl_get z n (i - z.length) (by rw [Nat.succ_mul] at h; omega)]
   congr 1
   rw [Nat.mod_eq_sub_mod (show i ≥ z.length by omega)]
theorem repl_vr {z : List AV} {zs : Array Value} (h : VRs ρ z zs.toList) (n : Nat) : VRs ρ (repl n z) ((Array.range (n * zs.size)).map (fun i => zs[i % zs.size]!)).toList := by
 have hlen : z.length = zs.size := by have := h.length; simpa using this
 apply VRs.of_get
 ·rw [repl_length, hlen]; simp
 ·intro i a v ha hv
  have hi : i < n * zs.size := by
   have := (List.getElem?_eq_some_iff.1 ha).1
   rw [repl_length, hlen] at this; exact this
  rw [repl_get z n i (by rw [hlen]; exact hi)] at ha
  obtain ⟨u, hu, hr⟩ := h.get ha
  rw [hlen, Array.getElem?_toList] at hu
  have hv' : v = zs[i % zs.size]! := by
   rw [Array.getElem?_toList, Array.getElem?_map] at hv
   simp [hi] at hv
   exact hv.symm
  have hpos : 0 < zs.size := by
   rcases Nat.eq_zero_or_pos zs.size with e | e
   ·rw [e] at hi; omega
   ·exact e
  have : zs[i % zs.size]! = u := by
   rw [getElem!_def, hu]
  rw [hv', this]; exact hr
theorem aBsl_sound {t el sz len : Nat} {z : List AV} {parts : Array (Nat × Operand)} {l : List AV} {b : Nat} {B : ABlk} {g : Nat → AV} (hW : WR ρ H0 m w) (hb : m.bl.get b = some B) (hρ : ρ b = none)
 (ht : P.underlying t = some (.slice el)) (hs : szOf P el = some sz) (hz : zeroC P el = some z) (hl : len * sz ≤ 16777216) (hzl : z.length = sz) (hv : VRs ρ l ((parts.toList.map (·.2)).map ev))
 (h : aBsl el sz len z (rowPlaces sz (parts.toList.map (·.1))) l = some (B, g)) : Makes P ρ H0 m w b (Instr.buildSlice t len (parts.map fun (i, x) => (i, ev x))) (g b) := by
 obtain ⟨zv, hzv, hzr⟩ := zeroC_sound ρ hz
 unfold aBsl at h
 split at h
 ·rename_i r hr
  cases h
  have hsz : zv.cells.size = sz := by have := hzr.length; simp at this; omega
  have hzeros := repl_vr hzr len
  rw [hsz] at hzeros
  obtain ⟨q1, q2⟩ := rowPlaces_get (sz := sz) (is := parts.toList.map (·.1))
  obtain ⟨out, ho, hor⟩ := fill_sound (fun i => some (i * sz, sz)) _ (parts.toList.map (·.1)) l ((parts.toList.map (·.2)).map ev) _ _ r (by simp) q2 q1 hv hzeros hr
  have he : (parts.map fun (i, x) => (i, ev x)).toList = (parts.toList.map (·.1)).zip ((parts.toList.map (·.2)).map ev) := by rw [Array.toList_map]; exact zip_parts _ _
  obtain ⟨h1, h2⟩ := makes_row hW hb hρ (Or.inl rfl) (t := el) (cs := out) hor w rfl (Below.refl _ _)
  have hrl : r.length = out.size := by have := hor.length; simpa using this
  have hfl : ∀ (ps : List (Nat × Nat)) (cells l : List AV) (r : List AV), fillA cells ps l = some r → r.length = cells.length := by
   intro ps
   induction ps with
   | nil => intro cells l r h; cases l <;> simp [fillA] at h; subst h; rfl
   | cons p ps ih =>
    intro cells l r h
    obtain ⟨off, n⟩ := p
    cases l with
    | nil => simp [fillA] at h
    | cons v l =>
     simp only [fillA] at h
     split at h
     ·rename_i hg
      rw [Bool.and_eq_true] at hg
      have := Nat.eq_of_beq_eq_true hg.1
      have h2 := Nat.le_of_ble_eq_true hg.2
      simp only [ln_eq] at this h2
      rw [ih _ _ _ h, layAt_length (by omega)]
     ·cases h
  have hrlen : r.length = len * sz := by rw [hfl _ _ _ _ hr, repl_length, hzl]
  refine ⟨.slice (some ⟨w.heap.size, 0, none⟩) len len, _, _, ?_, h1, h2, ?_⟩
  ·have hle : ¬ len * sz > 2 ^ 24 := by omega
   by_cases h0 : len * sz = 0
   ·have e0 : ∀ f : Nat → Value, Array.map f (Array.range (len * sz)) = #[] := by intro f; rw [h0]; simp
    rw [e0] at ho
    simp only [Instr.buildSlice, Sem.run_bind, r_under w ht, Result.andThen_ok, r_size w hs, if_neg hle, if_pos h0, Sem.run_pure, he, e0]
    rw [ho]
    rfl
   ·simp only [Instr.buildSlice, Sem.run_bind, r_under w ht, Result.andThen_ok, r_size w hs, if_neg hle, if_neg h0, r_zero w hzv, Sem.run_pure, he, hsz]
    rw [ho]
    rfl
  ·exact .slice b 0 sz len len true ⟨w.heap.size, 0, out.size⟩ _ len (ρ.put_at _ _) (Nat.le_refl _) (Nat.le_refl _) (fun _ => rfl) (.inr ⟨rfl, by show 0 + len * sz ≤ out.size; omega⟩)
 ·cases h
theorem aMkm_sound {t : TypeId} {l : List AV} {b : Nat} {B : ABlk} {g : Nat → AV} (hW : WR ρ H0 m w) (hb : m.bl.get b = some B) (hρ : ρ b = none) (h : aMkm l = some (B, g)) : Makes P ρ H0 m w b (Instr.makeMap t none) (g b) := by
 cases h
 refine ⟨.map (some w.heap.size), w.alloc (.map #[] 0), ⟨w.heap.size, 0, 0⟩, rfl, ?_, below_alloc hW _, .map b ⟨w.heap.size, 0, 0⟩ (ρ.put_at _ _)⟩
 exact WR.alloc hW (room := 0) hb hρ (by intro _ _ _ _ _ h; cases h) ⟨#[], alloc_get w _, .nil, by simp, by simp⟩
end Go.Vm

namespace Go.Vm
open Go Go.RowKit
variable {P : Program} {mid : String → Option Nat} {ρ ρ' : Rho} {H0 : Nat} {m m' : Mem} {w w' : World} {e : Env} {loc : List AV} {σ : Operand → Option Opd} {ev : Operand → Value}
theorem aMks_sound {t el sz by_ : Nat} {z l : List AV} {u v : Value} {b : Nat} {B : ABlk} {g : Nat → AV} (hW : WR ρ H0 m w) (hb : m.bl.get b = some B) (hρ : ρ b = none)
 (ht : P.underlying t = some (.slice el)) (hs : szOf P el = some sz) (hby : byOf P el = some by_) (hz : zeroC P el = some z) (hzl : z.length = sz) (hv : VRs ρ l [u, v])
 (h : aMks el sz by_ z l = some (B, g)) : Makes P ρ H0 m w b (Instr.makeSlice t u v) (g b) := by
 obtain ⟨zv, hzv, hzr⟩ := zeroC_sound ρ hz
 unfold aMks at h
 split at h
 ·rename_i la lc
  split at h
  ·rename_i nl nc h1 h2
   split at h
   ·rename_i hg
    cases h
    rw [Bool.and_eq_true, Bool.and_eq_true] at hg
    obtain ⟨g1, g2, g3⟩ := hg
    have g1 := Nat.le_of_ble_eq_true g1
    have g2 := Nat.le_of_ble_eq_true g2
    have g3 := Nat.le_of_ble_eq_true g3
    cases hv with
    | cons _ _ _ _ hx hv => cases hv with
     | cons _ _ _ _ hy _ =>
      obtain ⟨ku, rfl⟩ := nat_inv hx h1
      obtain ⟨kv, rfl⟩ := nat_inv hy h2
      obtain ⟨i, hi, his⟩ := szOf_some hs
      obtain ⟨i', hi', hib⟩ := byOf_some hby
      rw [hi] at hi'; cases hi'
      obtain ⟨i', hi', hiz⟩ := zeroV_some hzv
      rw [hi] at hi'; cases hi'
      have hsz : zv.cells.size = sz := by have := hzr.length; simp at this; omega
      have hbm : (i.bytes : Int) * (nc : Int) ≤ 281474976710656 := by
       have : i.bytes * nc ≤ 16777216 := by rw [Nat.mul_comm, hib]; exact g2
       have : ((i.bytes * nc : Nat) : Int) ≤ 281474976710656 := by omega
       rwa [Int.natCast_mul] at this
      have hrun := run_make (P := P) w t el i zv ht hi hiz ku kv (nl : Int) (nc : Int) (by omega) (by omega) hbm (by omega)
      have hzeros := repl_vr hzr nc
      rw [hsz] at hzeros
      have hmade : madeCells zv.cells ((nc : Int).toNat * i.size) = (Array.range (nc * sz)).map (fun j => zv.cells[j % sz]!) := by
       rw [his, ← hsz]; simp [madeCells]
      rw [hmade] at hrun
      obtain ⟨p1, p2⟩ := makes_row hW hb hρ (Or.inl rfl) (t := el) (cs := (Array.range (nc * sz)).map (fun j => zv.cells[j % sz]!)) hzeros w rfl (Below.refl _ _)
      refine ⟨_, _, _, hrun, p1, p2, ?_⟩
      simp only [Int.toNat_natCast]
      exact .slice b 0 sz nl nc true ⟨w.heap.size, 0, _⟩ _ nc (ρ.put_at _ _) g1 (Nat.le_refl _) (fun _ => rfl) (.inr ⟨rfl, by simp⟩)
   ·cases h
  ·cases h
 ·cases h
theorem byteA_vr (b : UInt8) : VR ρ (byteA b) (.int .u8 b.toNat) := .int _ _
theorem bytes_vr (l : List UInt8) : VRs ρ (l.map byteA) (l.map fun b => Value.int .u8 (b.toNat : Int)) := by
 induction l with
 | nil => exact .nil
 | cons b l ih => exact .cons _ _ _ _ (byteA_vr b) ih
theorem aS2b_sound {el : Nat} {l : List AV} {u : Value} {b : Nat} {B : ABlk} {g : Nat → AV} (hW : WR ρ H0 m w) (hb : m.bl.get b = some B) (hρ : ρ b = none) (hv : VRs ρ l [u]) (h : aS2b el l = some (B, g)) :
 ∃ s, u = .string s ∧ Makes P ρ H0 m w b (Conv.stringToBytes el s) (g b) := by
 unfold aS2b at h
 split at h
 ·rename_i len val
  cases h
  cases hv with
  | cons _ _ _ _ hx _ =>
   obtain ⟨s, rfl, hs⟩ := str_inv hx
   refine ⟨s, rfl, ?_⟩
   obtain ⟨rfl, rfl⟩ := strR_list hs
   rw [unpackS_pack] at hb
   generalize hcap : (Question.appendCap s.size 0 el).cut (w.tape w.drawn (Question.appendCap s.size 0 el)) = cap
   have hge : s.size ≤ cap := by rw [← hcap]; simp only [Question.cut]; omega
   let cs : Array Value := (s.data.map fun b => Value.int .u8 b.toNat) ++ Array.replicate (cap - s.size) (.int .u8 0)
   have hcs : cs.size = cap := by
    have : s.data.size = s.size := rfl
    simp [cs, this]; omega
   have hsl : s.data.toList.length = s.size := by rw [Array.length_toList]; rfl
   have hrun : (Conv.stringToBytes el s).run P w = .ok (.slice (some ⟨w.heap.size, 0, none⟩) s.size cap) ((w.drew.alloc (.cells cs el)).freeze ⟨w.heap.size, cs.size, none⟩ 1) := by
    have hsh : (w.drew.alloc (.cells cs el)).shape? w.heap.size = some (el, cs.size) := by
     have := alloc_get w.drew (.cells cs el)
     have hd : w.drew.heap.size = w.heap.size := rfl
     rw [hd] at this
     simp only [World.shape?, this]
    unfold Conv.stringToBytes
    rw [Sem.run_bind, run_choose_drew]
    simp only [Question.forced, Bool.false_eq_true, if_false, Result.andThen_ok, hcap]
    rw [Sem.run_bind]
    show ((Result.ok (⟨w.heap.size, 0, none⟩ : Addr) (w.drew.alloc (.cells cs el))).andThen _) = _
    simp only [Result.andThen_ok, Sem.run_bind, markStringish, run_shape, hsh, run_freeze, Sem.run_pure]
   have hheap : ((w.drew.alloc (.cells cs el)).freeze ⟨w.heap.size, cs.size, none⟩ 1).heap = (w.alloc (.cells cs el (cs.size, cs.size + 1))).heap := by
    unfold World.freeze
    rw [if_neg (by decide : ¬ (1 = 0))]
    apply Array.ext_getElem?
    intro i
    rw [Array.getElem?_modify]
    have e1 : (w.drew.alloc (.cells cs el)).heap = w.heap.push (.cells cs el) := rfl
    have e2 : (w.alloc (.cells cs el (cs.size, cs.size + 1))).heap = w.heap.push (.cells cs el (cs.size, cs.size + 1)) := rfl
    rw [e1, e2, Array.getElem?_push, Array.getElem?_push]
    by_cases hi : i = w.heap.size
    ·subst hi; simp
    ·simp [hi, Ne.symm hi]
   have hblk : BlkR (ρ.put b ⟨w.heap.size, 0, cs.size⟩) (.cells 0 0 false (4 * el + 2) (s.data.toList.map byteA)) ⟨w.heap.size, 0, cs.size⟩ (w.alloc (.cells cs el (cs.size, cs.size + 1))) := by
    refine ⟨cs, el, _, alloc_get w _, ⟨by simp, by simp [hcs]; exact hge, ?_, by intro _ i hi; simp at hi ⊢; omega, fun h => by omega, ⟨fun s e => by omega, fun s e => by omega⟩⟩⟩
    intro i a hi
    have hi' : i < s.data.toList.length := by
     have := (List.getElem?_eq_some_iff.1 hi).1
     simpa using this
    rw [List.getElem?_map, Option.map_eq_some_iff] at hi
    obtain ⟨x, hx, rfl⟩ := hi
    refine ⟨.int .u8 x.toNat, ?_, byteA_vr x⟩
    rw [Nat.zero_add]
    simp only [cs]
    rw [Array.getElem?_append_left (by simpa using hi'), Array.getElem?_map, ← Array.getElem?_toList, hx]
    rfl
   have hwr := WR.alloc hW (room := cs.size) hb hρ (by intro cls st ro fz c h; cases h; rfl) hblk
   refine ⟨_, _, ⟨w.heap.size, 0, cs.size⟩, hrun, hwr.heap hheap, ?_, ?_⟩
   ·refine ⟨rfl, rfl, rfl, ?_, ?_⟩
    ·rw [hheap, alloc_size]; omega
    ·intro k hk
     rw [hheap]
     exact alloc_old w _ k (Nat.lt_of_lt_of_le hk hW.le)
   ·rw [hsl]
    exact .slice b 0 1 s.size s.size false ⟨w.heap.size, 0, cs.size⟩ _ cap (ρ.put_at _ _) (Nat.le_refl _) hge (by intro h; cases h) (.inr ⟨rfl, by show 0 + cap * 1 ≤ cs.size; omega⟩)
 ·cases h
end Go.Vm

namespace Go.Vm
open Go Go.RowKit
variable {P : Program} {mid : String → Option Nat} {ρ ρ' : Rho} {H0 : Nat} {m m' : Mem} {w w' : World} {e : Env} {loc : List AV} {σ : Operand → Option Opd} {ev : Operand → Value}
theorem al_plain {f : FA} {l : List AV} {B : ABlk} {g : Nat → AV} (h : f.run l = some (B, g)) : Plain B := by
 intro cls st ro fz c hB
 subst hB
 cases f with
 | zer t z => replace h : aZer t z l = _ := h; unfold aZer at h; split at h <;> cases h; rfl
 | box t n =>
  replace h : aBox t n l = _ := h; unfold aBox at h
  split at h
  ·obtain ⟨_, h⟩ := ite'_some h; cases h; rfl
  ·cases h
 | bsl t sz len z ps => replace h : aBsl t sz len z ps l = _ := h; unfold aBsl at h; split at h <;> cases h; rfl
 | mkm => replace h : aMkm l = _ := h; cases h
 | mks t sz b z =>
  replace h : aMks t sz b z l = _ := h; unfold aMks at h
  repeat' split at h
  all_goals (first | (cases h; done) | (cases h; rfl))
 | s2b t => replace h : aS2b t l = _ := h; unfold aS2b at h; split at h <;> cases h; rfl
def MakesX (P : Program) (ρ : Rho) (H0 : Nat) (m : Mem) (w : World) (b : Nat) (ev : Operand → Value) (o : Oper) (a : AV) : Prop :=
 ∃ v w' L, (execOp ev o).run P w = .ok (.value v) w' ∧ WR (ρ.put b L) H0 m w' ∧ Below H0 w w' ∧ VR (ρ.put b L) a v
theorem of_makes {b : Nat} {s : Sem Value} {a : AV} {o : Oper} (h : Makes P ρ H0 m w b s a) (he : execOp ev o = (do pure (.value (← s)))) : MakesX P ρ H0 m w b ev o a := by
 obtain ⟨v, w', L, h1, h2⟩ := h
 refine ⟨v, w', L, ?_, h2⟩
 rw [he, Sem.run_bind, h1]
 rfl
theorem al_sound (hW : WR ρ H0 m w) (hσ : OpdR ρ e loc σ ev) {o : Oper} {f : FA} {xs : List Opd} {l : List AV} {B : ABlk} {g : Nat → AV} {b : Nat} (hc : compOp P mid o.op σ = some (.l (.al f xs))) (hl : evs e loc xs = some l) (h : f.run l = some (B, g))
 (hb : m.bl.get b = some B) (hρ : ρ b = none) : MakesX P ρ H0 m w b ev o (g b) := by
 cases ho : o.op with
 | alloc t =>
  have he : execOp ev o = (do pure (.value (← Instr.alloc t true (.tuple #[])))) := by simp only [execOp, ho]
  rw [ho] at hc; simp only [compOp] at hc
  obtain ⟨z, hz, hc⟩ := ofO_some hc
  cases hc
  exact of_makes (aZer_sound hW hb hρ hz h) he
 | box t x =>
  have he : execOp ev o = (do pure (.value (← Instr.box t (ev x)))) := by simp only [execOp, ho]
  rw [ho] at hc; simp only [compOp] at hc
  split at hc
  ·rename_i q n hq hn
   cases hc
   rw [evs_cons, evs_nil] at hl
   split at hl
   ·cases hl
   ·rename_i a ha
    cases hl
    exact of_makes (aBox_sound hW hb hρ (VRs.one (hσ _ _ _ hq ha)) h) he
  ·cases hc
 | buildSlice t len parts =>
  have he : execOp ev o = (do pure (.value (← Instr.buildSlice t len (parts.map fun (i, x) => (i, ev x))))) := by simp only [execOp, ho]
  rw [ho] at hc; simp only [compOp] at hc
  split at hc
  ·rename_i el xs' h1 h2
   split at hc
   ·rename_i sz z h3 h4
    split at hc
    ·rename_i h5 h6
     cases hc
     have hu : P.underlying t = some (.slice el) := by
      unfold sliceE at h1; split at h1
      ·cases h1; assumption
      ·cases h1
     exact of_makes (aBsl_sound hW hb hρ hu h3 h4 (Nat.le_of_ble_eq_true h5) (Nat.eq_of_beq_eq_true h6) (opds_sound hσ _ _ _ h2 hl) h) he
    ·cases hc
   ·cases hc
  ·cases hc
 | makeMap t r =>
  rw [ho] at hc
  cases r with
  | none =>
   have he : execOp ev o = (do pure (.value (← Instr.makeMap t none))) := by simp only [execOp, ho, Option.map_none]
   simp only [compOp] at hc
   cases hc
   exact of_makes (aMkm_sound (l := l) hW hb hρ h) he
  | some r => simp [compOp] at hc
 | makeSlice t x y =>
  have he : execOp ev o = (do pure (.value (← Instr.makeSlice t (ev x) (ev y)))) := by simp only [execOp, ho]
  rw [ho] at hc; simp only [compOp] at hc
  split at hc
  ·rename_i el h1
   split at hc
   ·rename_i sz by_ z q1 q2 h3 h4 h5 h6 h7
    split at hc
    ·rename_i h8
     cases hc
     have hu : P.underlying t = some (.slice el) := by
      unfold sliceE at h1; split at h1
      ·cases h1; assumption
      ·cases h1
     rw [evs_cons, evs_cons, evs_nil] at hl
     split at hl
     ·cases hl
     ·rename_i a ha
      split at hl
      ·cases hl
      ·rename_i r hr
       split at hr
       ·cases hr
       ·rename_i c hc
        cases hr; cases hl
        exact of_makes (aMks_sound hW hb hρ hu h3 h4 h5 (Nat.eq_of_beq_eq_true h8) (.cons _ _ _ _ (hσ _ _ _ h6 ha) (VRs.one (hσ _ _ _ h7 hc))) h) he
    ·cases hc
   ·cases hc
  ·cases hc
 | convert s d x =>
  have he : execOp ev o = (do pure (.value (← convert s d (ev x)))) := by simp only [execOp, ho]
  rw [ho] at hc; simp only [compOp] at hc
  obtain ⟨q, hq, hc⟩ := ofO_some hc
  unfold compConv at hc
  split at hc
  ·cases hc
  ·cases hc
  ·split at hc
   ·split at hc <;> cases hc
   ·cases hc
  ·split at hc <;> cases hc
  ·cases hc
  ·rename_i el h1 h2
   split at hc
   ·rename_i h3
    cases hc
    rw [evs_cons, evs_nil] at hl
    split at hl
    ·cases hl
    ·rename_i a ha
     cases hl
     obtain ⟨s', hs', hm⟩ := aS2b_sound (P := P) (el := el) hW hb hρ (VRs.one (hσ _ _ _ hq ha)) h
     obtain ⟨v, w', L, p1, p2⟩ := hm
     refine of_makes ⟨v, w', L, ?_, p2⟩ he
     rw [← p1, hs']
     simp [convert, run_underlying h1, run_underlying h2, run_underlying h3]
   ·cases hc
  ·split at hc <;> cases hc
  ·cases hc
 | move x => rw [ho] at hc; simp only [compOp] at hc; obtain ⟨q, hq, hc⟩ := ofO_some hc; cases hc
 | assign x => rw [ho] at hc; simp only [compOp] at hc; obtain ⟨q, hq, hc⟩ := ofO_some hc; cases hc
 | nilCheck x => rw [ho] at hc; simp only [compOp] at hc; obtain ⟨q, hq, hc⟩ := ofO_some hc; cases hc
 | extract t i => rw [ho] at hc; simp only [compOp] at hc; obtain ⟨q, hq, hc⟩ := ofO_some hc; cases hc
 | panic x => rw [ho] at hc; simp only [compOp] at hc; obtain ⟨q, hq, hc⟩ := ofO_some hc; cases hc
 | next x b =>
  rw [ho] at hc
  cases b <;> simp only [compOp] at hc
  ·cases hc
  ·obtain ⟨q, hq, hc⟩ := ofO_some hc; cases hc
 | makeFunc f p q =>
  rw [ho] at hc
  cases f with
  | func f => simp only [compOp] at hc; obtain ⟨q, hq, hc⟩ := ofO_some hc; cases hc
  | _ => simp [compOp] at hc
 | binOp op t x y yt =>
  rw [ho] at hc; simp only [compOp] at hc
  split at hc
  ·unfold compBin compEq at hc
   repeat' split at hc
   all_goals cases hc
  ·cases hc
 | typeAssert x xt t ok =>
  rw [ho] at hc; simp only [compOp] at hc
  repeat' split at hc
  all_goals first
   | (cases hc; done)
   | (obtain ⟨q, hq, hc⟩ := ofO_some hc; cases hc)
 | defer cl =>
  rw [ho] at hc; simp only [compOp] at hc
  split at hc
  ·obtain ⟨q, hq, hc⟩ := ofO_some hc; cases hc
  ·cases hc
 | build t ps =>
  rw [ho] at hc; simp only [compOp] at hc
  repeat' split at hc
  all_goals first
   | (cases hc; done)
   | (obtain ⟨q, hq, hc⟩ := ofO_some hc; cases hc)
 | slice t x lo hi mx =>
  rw [ho] at hc; simp only [compOp] at hc
  repeat' split at hc
  all_goals first
   | (cases hc; done)
   | (obtain ⟨q, hq, hc⟩ := ofO_some hc; cases hc)
 | indexAddr t x y =>
  rw [ho] at hc; simp only [compOp] at hc
  repeat' split at hc
  all_goals first
   | (cases hc; done)
   | (obtain ⟨q, hq, hc⟩ := ofO_some hc; cases hc)
 | call cl =>
  rw [ho] at hc; simp only [compOp] at hc
  split at hc
  ·cases hc
  ·split at hc
   ·unfold compBuiltin at hc
    repeat' split at hc
    all_goals cases hc
   ·repeat' split at hc
    all_goals cases hc
   ·repeat' split at hc
    all_goals cases hc
 | pick c x y => rw [ho] at hc; simp only [compOp] at hc; repeat' split at hc
                 all_goals cases hc
 | load t x => rw [ho] at hc; simp only [compOp] at hc; repeat' split at hc
               all_goals cases hc
 | store t x y => rw [ho] at hc; simp only [compOp] at hc; repeat' split at hc
                  all_goals cases hc
 | unOp op t x => rw [ho] at hc; simp only [compOp] at hc; repeat' split at hc
                  all_goals cases hc
 | makeInterface t x => rw [ho] at hc; simp only [compOp] at hc; repeat' split at hc
                        all_goals cases hc
 | fieldAddr s x i => rw [ho] at hc; simp only [compOp] at hc; repeat' split at hc
                      all_goals cases hc
 | field s x i => rw [ho] at hc; simp only [compOp] at hc; repeat' split at hc
                  all_goals cases hc
 | index t x y => rw [ho] at hc; simp only [compOp] at hc; repeat' split at hc
                  all_goals cases hc
 | lookup t x y ok => rw [ho] at hc; simp only [compOp] at hc; repeat' split at hc
                      all_goals cases hc
 | mapUpdate t x y z => rw [ho] at hc; simp only [compOp] at hc; repeat' split at hc
                        all_goals cases hc
 | insert t x y z => rw [ho] at hc; simp only [compOp] at hc; repeat' split at hc
                     all_goals cases hc
 | mapEntry t x y => rw [ho] at hc; simp only [compOp] at hc; repeat' split at hc
                     all_goals cases hc
 | entryStore t x y z => rw [ho] at hc; simp only [compOp] at hc; repeat' split at hc
                         all_goals cases hc
 | range t x => rw [ho] at hc; simp only [compOp] at hc; repeat' split at hc
                all_goals cases hc
 | _ => rw [ho] at hc; simp [compOp] at hc
end Go.Vm

namespace Go.Vm
open Go Go.RowKit
variable {P : Program} {mid : String → Option Nat} {ρ ρ' : Rho} {H0 : Nat} {m m' : Mem} {w w' : World} {e : Env} {loc : List AV} {σ : Operand → Option Opd} {ev : Operand → Value}
def Acts (P : Program) (ρ : Rho) (H0 : Nat) (m : Mem) (w : World) (s : Sem Value) (a : AV) (m' : Mem) : Prop :=
 ∃ v w' ρ', s.run P w = .ok v w' ∧ WR ρ' H0 m' w' ∧ Stp H0 ρ m w ρ' m' w' ∧ VR ρ' a v
def ActsU (P : Program) (ρ : Rho) (H0 : Nat) (m : Mem) (w : World) (s : Sem Unit) (m' : Mem) : Prop :=
 ∃ w' ρ', s.run P w = .ok () w' ∧ WR ρ' H0 m' w' ∧ Stp H0 ρ m w ρ' m' w'
theorem undef_vr : VR ρ undefA undef := .tup [] [] .nil
theorem onO_some' {α β : Type} {o : Option α} {f : α → Option β} {r : β} (h : onO o f none = some r) : ∃ a, o = some a ∧ f a = some r := onO_some h
theorem write_sound (hW : WR ρ H0 m w) {b o : Nat} {l : List AV} {L : Loc} {vs : List Value} (hL : ρ b = some L) (hv : VRs ρ l vs) (h : storeL m b o l = some m') :
 ∃ w', (storeCells (L.at o) vs).run P w = .ok () w' ∧ WR ρ H0 m' w' ∧ Stp H0 ρ m w ρ m' w' := by
 obtain ⟨cls, st, fz, c, hb, ho, h1, hs⟩ := storeL_some h
 obtain ⟨q1, q2, q3⟩ := hW.store (P := P) hb hL ho h1 hs hv
 exact ⟨_, q1, q2, q3⟩
theorem hSto_sound {t : TypeId} {n : Nat} {l : List AV} {u v : Value} {a : AV} (hW : WR ρ H0 m w) (hn : szOf P t = some n) (hv : VRs ρ l [u, v]) (h : hSto n m l = some (a, m')) :
 ActsU P ρ H0 m w (Instr.storeAt t u v) m' ∧ a = undefA := by
 unfold hSto at h
 split at h
 ·rename_i b o x
  split at h
  ·rename_i hl
   obtain ⟨m1, hm, h⟩ := onO_some h
   cases h
   cases hv with
   | cons _ _ _ _ hp hv => cases hv with
    | cons _ _ _ _ hx _ =>
     obtain ⟨L, hL, rfl⟩ := ptr_inv hp
     obtain ⟨w', q1, q2, q3⟩ := write_sound (P := P) hW hL hx.cells hm
     refine ⟨⟨w', ρ, ?_, q2, q3⟩, rfl⟩
     have hlen := hx.cells.length
     have hl := Nat.eq_of_beq_eq_true hl
     simp only [ln_eq] at hl
     have hsz : ¬ v.cells.size ≠ n := by simp at hlen; omega
     simp only [Instr.storeAt, Instr.sureAddr, Sem.run_bind, Sem.run_pure, Result.andThen_ok, storeVar, r_size w hn, if_neg hsz]
     exact q1
  ·cases h
 ·cases h
end Go.Vm

namespace Go.Vm
open Go Go.RowKit
variable {P : Program} {mid : String → Option Nat} {ρ ρ' : Rho} {H0 : Nat} {m m' : Mem} {w w' : World} {e : Env} {loc : List AV} {σ : Operand → Option Opd} {ev : Operand → Value}
def World.setO (w : World) (r : Nat) (O : Obj) : World := { w with heap := w.heap.setIfInBounds r O }
theorem setO_get {r : Nat} {O O' : Obj} (h : w.heap[r]? = some O) : (World.setO w r O').heap[r]? = some O' := by
 have hlt : r < w.heap.size := (Array.getElem?_eq_some_iff.1 h).1
 simp [World.setO, hlt]
theorem setO_other {r k : Nat} {O' : Obj} (h : k ≠ r) : (World.setO w r O').heap[k]? = w.heap[k]? := by
 simp [World.setO, Ne.symm h]
theorem WR.setO (hW : WR ρ H0 m w) {b : Nat} {B B' : ABlk} {L : Loc} {O O' : Obj} (hb : m.bl.get b = some B) (hL : ρ b = some L) (hB : ∀ cls st ro fz c, B ≠ .cells cls st ro fz c) (hB' : ∀ cls st ro fz c, B' ≠ .cells cls st ro fz c) (_ : w.heap[L.blk]? = some O)
 (hR : BlkR ρ B' L (World.setO w L.blk O')) : WR ρ H0 (setM m b B') (World.setO w L.blk O') ∧ Stp H0 ρ m w ρ (setM m b B') (World.setO w L.blk O') := by
 have hg : ∀ x, (setM m b B').bl.get x = if x = b then some B' else m.bl.get x := fun x => by simp [setM, T.get_set]
 have hL0 : H0 ≤ L.blk := by
  rcases Nat.lt_or_ge L.blk H0 with hlt | hge
  ·obtain ⟨cls, st, c, e⟩ := hW.low b _ L hb hL hlt
   exact absurd e (hB _ _ _ _ _)
  ·exact hge
 have hne : ∀ x C K, x ≠ b → m.bl.get x = some C → ρ x = some K → K.blk ≠ L.blk := by
  intro x C K hx hC hK e
  obtain ⟨_, _, _, _, _, _, _, _, _, _, e2, _⟩ := hW.inj x b C B K L hx hC hb hK hL e
  exact absurd e2 (hB _ _ _ _ _)
 have hsz : (World.setO w L.blk O').heap.size = w.heap.size := by simp [World.setO]
 refine ⟨⟨?_, ?_, ?_, ?_, ?_, hW.cld, ?_, by rw [hsz]; exact hW.le⟩, ⟨Rho.le_refl _, Nat.le_refl _, ?_, ⟨rfl, rfl, rfl, Nat.le_of_eq hsz.symm, fun k hk => setO_other (by omega)⟩⟩⟩
 ·intro x C K hC hK
  rw [hg] at hC
  split at hC
  ·rename_i hx; subst hx; cases hC; rw [hL] at hK; cases hK; exact hR
  ·rename_i hx
   exact (hW.blk x C K hC hK).same (setO_other (hne x C K hx hC hK))
 ·intro x K hK; rw [hsz]; exact hW.dom x K hK
 ·intro x C hC
  rw [hg] at hC
  split at hC
  ·rename_i hx; subst hx; exact hW.live x B hb
  ·exact hW.live x C hC
 ·intro x y C D K M hxy hC hD hK hM he
  rw [hg] at hC hD
  split at hC
  ·rename_i hx; subst hx
   rw [if_neg (Ne.symm hxy)] at hD
   rw [hL] at hK; cases hK
   exact absurd he.symm (hne y D M (Ne.symm hxy) hD hM)
  ·rename_i hx
   split at hD
   ·rename_i hy; subst hy
    rw [hL] at hM; cases hM
    exact absurd he (hne x C K hx hC hK)
   ·exact hW.inj x y C D K M hxy hC hD hK hM he
 ·intro x cls st ro fz c hC hc
  rw [hg] at hC
  split at hC
  ·cases hC; exact absurd rfl (hB' _ _ _ _ _)
  ·exact hW.cls x cls st ro fz c hC hc
 ·intro x C K hC hK hlt
  rw [hg] at hC
  split at hC
  ·rename_i hx; subst hx; rw [hL] at hK; cases hK; omega
  ·exact hW.low x C K hC hK hlt
 ·intro x hx he
  refine ⟨he, ?_⟩
  rw [hg, if_neg (by intro e; subst e; rw [hL] at he; cases he)]
theorem r_setObj {r : Nat} {O O' : Obj} (h : w.heap[r]? = some O) (ho : ∀ c t f, O ≠ .cells c t f) : (setObj r O').run P w = .ok () (World.setO w r O') := by
 simp only [setObj, Sem.run, h]
 cases O <;> first | rfl | exact absurd rfl (ho _ _ _)
theorem ERs.modify {es es' : List AEnt} {E : List MapEntry} (h : ERs ρ es E) {j : Nat} {f : MapEntry → MapEntry} (hl : es'.length = es.length) (ho : ∀ i, i ≠ j → es'[i]? = es[i]?) (hj : ∀ a e, es'[j]? = some a → E[j]? = some e → ER ρ a (f e)) : ERs ρ es' (E.modify j f) := by
 induction h generalizing es' j with
 | nil =>
  cases es' with
  | nil => simp; exact .nil
  | cons a l => simp at hl
 | cons a l e x hae t ih =>
  cases es' with
  | nil => simp at hl
  | cons a' l' =>
   cases j with
   | zero =>
    simp only [List.modify_zero_cons]
    have := hj a' e rfl rfl
    refine .cons _ _ _ _ this ?_
    have hll : l' = l := by
     apply List.ext_getElem?
     intro i
     simpa using ho (i + 1) (by omega)
    rw [hll]; exact t
   | succ j =>
    simp only [List.modify_succ_cons]
    have ha : a' = a := by simpa using ho 0 (by omega)
    subst ha
    exact .cons _ _ _ _ hae (ih (by simpa using hl) (fun i hi => by simpa using ho (i + 1) (by omega)) (fun b e' hb he => hj b e' (by simpa using hb) (by simpa using he)))
theorem ERs.get {es : List AEnt} {E : List MapEntry} (h : ERs ρ es E) {j : Nat} {a : AEnt} (ha : es[j]? = some a) : ∃ e, E[j]? = some e ∧ ER ρ a e := by
 induction h generalizing j with
 | nil => simp at ha
 | cons b l e x hbe t ih =>
  cases j with
  | zero => simp at ha; subst ha; exact ⟨e, rfl, hbe⟩
  | succ j => simpa using ih (by simpa using ha)
theorem ERs.append {l r : List AEnt} {x y : List MapEntry} (h : ERs ρ l x) (k : ERs ρ r y) : ERs ρ (l ++ r) (x ++ y) := by
 induction h with
 | nil => exact k
 | cons a l e x hae t ih => exact .cons _ _ _ _ hae ih
theorem eqP_bits {k : PK} {x y : AV} {u v : Value} (_ : WR ρ H0 m w) (hx : VR ρ x u) (hy : VR ρ y v) (h : eqP m k x y = some true) (n : Nat) : Instr.sameBits n v u = true := by
 cases k with
 | bool =>
  simp only [eqP] at h
  replace h := onBool_some h
  obtain ⟨p, rfl, h⟩ := h
  replace h := onBool_some h
  obtain ⟨q, rfl, h⟩ := h
  cases bool_inv hx; cases bool_inv hy
  cases p <;> cases q <;> first | (simp [Instr.sameBits]; done) | cases h
 | int =>
  simp only [eqP] at h
  replace h := onIntK_some h
  obtain ⟨j, p, rfl, h⟩ := h
  replace h := onIntK_some h
  obtain ⟨j', q, rfl, h⟩ := h
  replace h := ite'_some h
  obtain ⟨e, h⟩ := h
  have e := kNum_inj e
  subst e
  cases int_inv hx; cases int_inv hy
  simp only [Option.some.injEq, iEq_eq, beq_iff_eq] at h
  subst h
  simp [Instr.sameBits]
 | str =>
  simp only [eqP] at h
  replace h := onStr_some h
  obtain ⟨l, s, rfl, h⟩ := h
  replace h := onStr_some h
  obtain ⟨l', s', rfl, h⟩ := h
  obtain ⟨p, rfl, hp⟩ := str_inv hx
  obtain ⟨q, rfl, hq⟩ := str_inv hy
  obtain ⟨rfl, rfl⟩ := strR_list hp
  obtain ⟨rfl, rfl⟩ := strR_list hq
  rw [strEq_pack] at h
  simp only [Option.some.injEq] at h
  have h := beq_iff_eq.1 h
  simp [Instr.sameBits, beq_toListBytes, ByteArray.toList_eq, h]
 | ptr =>
  simp only [eqP] at h
  split at h
  ·cases nilp_inv hx; cases nilp_inv hy; simp [Instr.sameBits]
  ·cases h
  ·cases h
  ·rename_i b1 o1 b2 o2
   obtain ⟨L, hL, rfl⟩ := ptr_inv hx
   obtain ⟨K, hK, rfl⟩ := ptr_inv hy
   split at h
   ·rename_i hb
    obtain rfl := Nat.eq_of_beq_eq_true hb
    rw [hL] at hK; cases hK
    simp only [Option.some.injEq] at h
    obtain rfl := Nat.eq_of_beq_eq_true h
    simp [Instr.sameBits]
   ·obtain ⟨_, h⟩ := ite'_some h
    cases h
  ·cases h
theorem eqPs_bits (hW : WR ρ H0 m w) (n : Nat) : ∀ (ks : List PK) (as bs : List AV) (xs ys : List Value), VRs ρ as xs → VRs ρ bs ys → eqPs m ks as bs = some true →
 ys.length = xs.length ∧ ((ys.zip xs).all fun p => Instr.sameBits n p.1 p.2) = true
 | [], as, bs, xs, ys, ha, hb, h => by
  cases as <;> cases bs <;> simp only [eqPs, reduceCtorEq] at h
  cases ha; cases hb; simp
 | k :: ks, as, bs, xs, ys, ha, hb, h => by
  cases as with
  | nil => cases bs <;> simp [eqPs] at h
  | cons a as => cases bs with
   | nil => simp [eqPs] at h
   | cons b bs =>
    cases ha with
    | cons _ _ u X ha' hta => cases hb with
     | cons _ _ v Y hb' htb =>
      simp only [eqPs] at h
      split at h
      ·rename_i e
       obtain ⟨q1, q2⟩ := eqPs_bits hW n ks as bs X Y hta htb h
       refine ⟨by simp [q1], ?_⟩
       simp only [List.zip_cons_cons, List.all_cons, Bool.and_eq_true]
       exact ⟨eqP_bits hW ha' hb' e n, q2⟩
      ·cases h
      ·cases h
theorem eqD_bits {kd : EqD} {x y : AV} {u v : Value} (hW : WR ρ H0 m w) (hk : keyOk kd x = true) (hx : VR ρ x u) (hy : VR ρ y v) (h : eqD m kd x y = some true) (n : Nat) : Instr.sameBits (n + 1) v u = true := by
 cases kd with
 | p k => exact eqP_bits hW hx hy h _
 | slc => cases hk
 | mp => cases hk
 | fn => cases hk
 | ifc tab =>
  simp only [eqD] at h
  split at h
  ·cases nili_inv hx; cases nili_inv hy; rfl
  ·cases h
  ·cases h
  ·rename_i t1 a1 t2 a2
   obtain ⟨p, rfl, hp⟩ := iface_inv hx
   obtain ⟨q, rfl, hq⟩ := iface_inv hy
   split at h
   ·cases h
   ·rename_i hb
    obtain rfl := Nat.eq_of_beq_eq_true hb
    split at h
    ·have := eqP_bits hW hp hq h n
     simp [Instr.sameBits, this]
    ·cases h
  ·cases h
 | seq ks =>
  simp only [eqD] at h
  replace h := onAgg_some h
  obtain ⟨as, rfl, h⟩ := h
  replace h := onAgg_some h
  obtain ⟨bs, rfl, h⟩ := h
  obtain ⟨xs, rfl, hxs⟩ := agg_inv hx
  obtain ⟨ys, rfl, hys⟩ := agg_inv hy
  obtain ⟨q1, q2⟩ := eqPs_bits hW n ks as bs xs ys hxs hys h
  simp only [Instr.sameBits, Bool.and_eq_true]
  exact ⟨by simpa using q1, q2⟩
def Upd (ρ : Rho) (m : Mem) (kd : EqD) (k v : AV) (clock : Nat) (es es' : List AEnt) (E : List MapEntry) (i : Nat) (n : Bool) (r : Option (Nat × Value)) : Prop :=
 (n = true ∧ r = none ∧ es' = es ++ [⟨k, v, clock⟩]) ∨
 (n = false ∧ ∃ (j : Nat) (e : AEnt) (e' : MapEntry), r = some (i + j, e'.val) ∧ es[j]? = some e ∧ E[j]? = some e' ∧ ER ρ e e' ∧ eqD m kd k e.key = some true ∧ es'.length = es.length ∧ es'[j]? = some ⟨k, v, e.born⟩ ∧ ∀ (q : Nat), q ≠ j → es'[q]? = es[q]?)
theorem updE_asking (hW : WR ρ H0 m w) {t : TypeId} {kd : EqD} (hk : eqdOf P t = some kd) {k v : AV} {kv : Value} (hy : VR ρ k kv) {clock : Nat} : ∀ (es es' : List AEnt) (E : List MapEntry) (i : Nat) (n : Bool), ERs ρ es E → updE m kd k v clock es = some (es', n) →
 ∃ r, (Instr.findAsking t kv E i).run P w = .ok r w ∧ Upd ρ m kd k v clock es es' E i n r
 | [], es', _, i, n, .nil, h => by
  simp only [updE, Option.some.injEq, Prod.mk.injEq] at h
  obtain ⟨rfl, rfl⟩ := h
  exact ⟨none, by simp [Instr.findAsking], .inl ⟨rfl, rfl, rfl⟩⟩
 | e :: es, es', _, i, n, .cons _ _ e' E he hE, h => by
  simp only [updE] at h
  split at h
  ·rename_i hq
   simp only [Option.some.injEq, Prod.mk.injEq] at h
   obtain ⟨rfl, rfl⟩ := h
   have := eqD_sound hW hk hy he.key hq 9998
   refine ⟨some (i, e'.val), by simp [Instr.findAsking, Op.equal, Op.maxDepth, this], .inr ⟨rfl, 0, e, e', rfl, rfl, rfl, he, hq, by simp, rfl, ?_⟩⟩
   intro q hq
   cases q with
   | zero => exact absurd rfl hq
   | succ q => rfl
  ·rename_i hq
   split at h
   ·rename_i l n' hu
    simp only [Option.some.injEq, Prod.mk.injEq] at h
    obtain ⟨rfl, rfl⟩ := h
    have := eqD_sound hW hk hy he.key hq 9998
    obtain ⟨r, hr, hupd⟩ := updE_asking hW hk hy es l E (i + 1) n' hE hu
    refine ⟨r, by simp [Instr.findAsking, Op.equal, Op.maxDepth, this, hr], ?_⟩
    rcases hupd with ⟨h1, h2, h3⟩ | ⟨h1, j, a, b, h2, h3, h4, h5, h6, h7, h8, h9⟩
    ·exact .inl ⟨h1, h2, by rw [h3]; rfl⟩
    ·refine .inr ⟨h1, j + 1, a, b, by rw [h2]; congr 2; omega, by simpa using h3, by simpa using h4, h5, h6, by simp [h7], by simpa using h8, ?_⟩
     intro q hq
     cases q with
     | zero => rfl
     | succ q => simpa using h9 q (by omega)
   ·cases h
  ·cases h
theorem updE_sound (hW : WR ρ H0 m w) {t : TypeId} {kd : EqD} (hk : eqdOf P t = some kd) {k v : AV} {kv : Value} (hy : VR ρ k kv) {clock : Nat} {es es' : List AEnt} {E : List MapEntry} {n : Bool} (hE : ERs ρ es E) (h : updE m kd k v clock es = some (es', n)) :
 ∃ r, (Instr.findKey t kv E).run P w = .ok r w ∧ Upd ρ m kd k v clock es es' E 0 n r := by
 obtain ⟨d, hu⟩ := eqdOf_under hk
 rw [findKey_asking hu]
 exact updE_asking hW hk hy es es' E 0 n hE h
theorem born_same {es es' : List AEnt} {j : Nat} {e : AEnt} {k v : AV} (h1 : es[j]? = some e) (_ : es'.length = es.length) (h3 : es'[j]? = some ⟨k, v, e.born⟩) (h4 : ∀ (q : Nat), q ≠ j → es'[q]? = es[q]?) : es'.map (·.born) = es.map (·.born) := by
 apply List.ext_getElem?
 intro i
 rw [List.getElem?_map, List.getElem?_map]
 by_cases hi : i = j
 ·subst hi; rw [h3, h1]; rfl
 ·rw [h4 i hi]
theorem hMup_sound {t kt el : TypeId} {kd : EqD} {l : List AV} {u k v : Value} {a : AV} (hW : WR ρ H0 m w) (ht : P.underlying t = some (.map kt el)) (hk : eqdOf P kt = some kd) (hv : VRs ρ l [u, k, v]) (h : hMup kd m l = some (a, m')) :
 ActsU P ρ H0 m w (Instr.mapUpdate t u k v) m' ∧ a = undefA := by
 unfold hMup at h
 split at h
 ·rename_i b ka va
  split at h
  ·rename_i es clock hb
   split at hb
   ·rename_i hok
    split at h
    ·rename_i es' n hu
     simp only [Option.some.injEq, Prod.mk.injEq] at h
     obtain ⟨rfl, rfl⟩ := h
     refine ⟨?_, rfl⟩
     cases hv with
     | cons _ _ _ _ hm hv => cases hv with
      | cons _ _ _ _ hkv hv => cases hv with
       | cons _ _ _ _ hvv _ =>
        obtain ⟨L, hL, rfl⟩ := map_inv hm
        obtain ⟨E, q1, q2, q3, q4⟩ := hW.blk b _ L hb hL
        obtain ⟨r, hr, hupd⟩ := updE_sound (P := P) hW hk hkv q2 hu
        have hc := check_sound (w := w) hk hkv hok false 9998
        have hg := r_getObj (P := P) q1 (by intro _ _ _ e; cases e)
        have hncell : ∀ cls st ro fz c, (ABlk.map es clock) ≠ .cells cls st ro fz c := by intro _ _ _ _ _ e; cases e
        rcases hupd with ⟨rfl, rfl, rfl⟩ | ⟨rfl, j, e, e', rfl, h3, h4, h5, h6, h7, h8, h9⟩
        ·have hset : BlkR ρ (.map (es ++ [⟨ka, va, clock⟩]) (clock + 1)) L (World.setO w L.blk (.map (E.push { key := k, val := v, born := clock }) (clock + 1))) := by
          refine ⟨_, setO_get q1, ?_, ?_, ?_⟩
          ·rw [Array.toList_push]
           exact q2.append (.cons _ _ _ _ ⟨hkv, hvv, rfl⟩ .nil)
          ·rw [List.map_append, List.nodup_append]
           refine ⟨q3, by simp, ?_⟩
           intro x hx y hy e
           simp at hy
           obtain ⟨z, hz, rfl⟩ := List.mem_map.1 hx
           have := q4 z hz
           omega
          ·intro x hx
           rcases List.mem_append.1 hx with hx | hx
           ·have := q4 x hx; omega
           ·simp at hx; subst hx; exact Nat.lt_succ_self _
         obtain ⟨p1, p2⟩ := hW.setO hb hL hncell (by intro _ _ _ _ _ e; cases e) q1 hset
         refine ⟨_, ρ, ?_, p1, p2⟩
         simp only [Instr.mapUpdate, Sem.run_bind, run_underlying ht, Result.andThen_ok, hg, hc, hr]
         exact r_setObj q1 (by intro _ _ _ e; cases e)
        ·have hbits := eqD_bits hW hok hkv h5.key h6 9999
         have hset : BlkR ρ (.map es' clock) L (World.setO w L.blk (.map (E.modify j fun x => { x with key := k, val := v }) clock)) := by
          refine ⟨_, setO_get q1, ?_, ?_, ?_⟩
          ·rw [Array.toList_modify]
           refine q2.modify h7 h9 ?_
           intro a x ha hx
           rw [h8] at ha; cases ha
           rw [h4] at hx; cases hx
           exact ⟨hkv, hvv, h5.born⟩
          ·rw [born_same h3 h7 h8 h9]; exact q3
          ·intro x hx
           have : x.born ∈ es'.map (·.born) := List.mem_map_of_mem hx
           rw [born_same h3 h7 h8 h9] at this
           obtain ⟨y, hy, e⟩ := List.mem_map.1 this
           rw [← e]; exact q4 y hy
         obtain ⟨p1, p2⟩ := hW.setO hb hL hncell (by intro _ _ _ _ _ e; cases e) q1 hset
         refine ⟨_, ρ, ?_, p1, p2⟩
         have hEj : E[j]? = some e' := by rw [← Array.getElem?_toList]; exact h4
         simp only [Instr.mapUpdate, Sem.run_bind, run_underlying ht, Result.andThen_ok, hg, hc, hr, hEj, Option.map_some, Option.getD_some, Instr.keyThatStays, hbits, if_true, Sem.run_pure, Nat.zero_add]
         exact r_setObj q1 (by intro _ _ _ e; cases e)
    ·cases h
   ·cases hb
  ·cases h
 ·cases h
end Go.Vm

namespace Go.Vm
open Go Go.RowKit
variable {P : Program} {mid : String → Option Nat} {ρ ρ' : Rho} {H0 : Nat} {m m' : Mem} {w w' : World} {e : Env} {loc : List AV} {σ : Operand → Option Opd} {ev : Operand → Value}
theorem map_ncell {es : List AEnt} {clock : Nat} : ∀ cls st ro fz c, (ABlk.map es clock) ≠ .cells cls st ro fz c := by intro _ _ _ _ _ e; cases e
theorem blk_push {es : List AEnt} {clock : Nat} {E : Array MapEntry} {L : Loc} {ka va : AV} {k v : Value} (q1 : w.heap[L.blk]? = some (.map E clock)) (q2 : ERs ρ es E.toList) (q3 : (es.map (·.born)).Nodup) (q4 : ∀ e ∈ es, e.born < clock) (hk : VR ρ ka k) (hv : VR ρ va v) :
 BlkR ρ (.map (es ++ [⟨ka, va, clock⟩]) (clock + 1)) L (World.setO w L.blk (.map (E.push { key := k, val := v, born := clock }) (clock + 1))) := by
 refine ⟨_, setO_get q1, ?_, ?_, ?_⟩
 ·rw [Array.toList_push]
  exact q2.append (.cons _ _ _ _ ⟨hk, hv, rfl⟩ .nil)
 ·rw [List.map_append, List.nodup_append]
  refine ⟨q3, by simp, ?_⟩
  intro x hx y hy e
  simp at hy
  obtain ⟨z, hz, rfl⟩ := List.mem_map.1 hx
  have := q4 z hz
  omega
 ·intro x hx
  rcases List.mem_append.1 hx with hx | hx
  ·have := q4 x hx; omega
  ·simp at hx; subst hx; exact Nat.lt_succ_self _
theorem blk_modify {es es' : List AEnt} {clock j : Nat} {E : Array MapEntry} {L : Loc} {ka va : AV} {e : AEnt} {e' : MapEntry} {f : MapEntry → MapEntry} (q1 : w.heap[L.blk]? = some (.map E clock)) (q2 : ERs ρ es E.toList) (q3 : (es.map (·.born)).Nodup) (q4 : ∀ e ∈ es, e.born < clock)
 (h3 : es[j]? = some e) (h4 : E.toList[j]? = some e') (h7 : es'.length = es.length) (h8 : es'[j]? = some ⟨ka, va, e.born⟩) (h9 : ∀ (q : Nat), q ≠ j → es'[q]? = es[q]?) (hf : ER ρ ⟨ka, va, e.born⟩ (f e')) :
 BlkR ρ (.map es' clock) L (World.setO w L.blk (.map (E.modify j f) clock)) := by
 refine ⟨_, setO_get q1, ?_, ?_, ?_⟩
 ·rw [Array.toList_modify]
  refine q2.modify h7 h9 ?_
  intro a x ha hx
  rw [h8] at ha; cases ha
  rw [h4] at hx; cases hx
  exact hf
 ·rw [born_same h3 h7 h8 h9]; exact q3
 ·intro x hx
  have : x.born ∈ es'.map (·.born) := List.mem_map_of_mem hx
  rw [born_same h3 h7 h8 h9] at this
  obtain ⟨y, hy, e⟩ := List.mem_map.1 this
  rw [← e]; exact q4 y hy
theorem hMen_sound {t kt el : TypeId} {kd : EqD} {z : AV} {l : List AV} {u k : Value} {a : AV} (hW : WR ρ H0 m w) (ht : P.underlying t = some (.map kt el)) (hk : eqdOf P kt = some kd) (hz : zeroA P el = some z) (hv : VRs ρ l [u, k]) (h : hMen kd z m l = some (a, m')) :
 Acts P ρ H0 m w (Instr.mapEntry t u k) a m' := by
 obtain ⟨zv, hzv, hzr⟩ := zeroA_sound ρ hz
 unfold hMen at h
 split at h
 ·rename_i b ka
  split at h
  ·rename_i es clock hb
   split at hb
   ·rename_i hok
    cases hv with
    | cons _ _ _ _ hm hv => cases hv with
     | cons _ _ _ _ hkv _ =>
      obtain ⟨L, hL, rfl⟩ := map_inv hm
      obtain ⟨E, q1, q2, q3, q4⟩ := hW.blk b _ L hb hL
      have hc := check_sound (w := w) hk hkv hok false 9998
      have hg := r_getObj (P := P) q1 (by intro _ _ _ e; cases e)
      split at h
      ·rename_i e he
       split at h
       ·rename_i es' n hu
        simp only [Option.some.injEq, Prod.mk.injEq] at h
        obtain ⟨rfl, rfl⟩ := h
        obtain ⟨r, hr, hupd⟩ := updE_sound (P := P) hW hk hkv q2 hu
        obtain ⟨r', hr', hf⟩ := findE_sound (P := P) hW hk hkv q2 he
        rw [hr] at hr'; cases hr'
        obtain ⟨j2, e2, h1', h2', h3', h4'⟩ := hf
        rcases hupd with ⟨rfl, rfl, rfl⟩ | ⟨rfl, j, e0, e', rfl, h3, h4, h5, h6, h7, h8, h9⟩
        ·cases h1'
        ·simp only [Option.some.injEq, Prod.mk.injEq, Nat.zero_add] at h1'
         obtain ⟨rfl, _⟩ := h1'
         rw [h3] at h2'; cases h2'
         have hbits := eqD_bits hW hok hkv h5.key h6 9999
         have hset := blk_modify (f := fun x => { x with key := k }) q1 q2 q3 q4 h3 h4 h7 h8 h9 ⟨hkv, h5.val, h5.born⟩
         obtain ⟨p1, p2⟩ := hW.setO hb hL map_ncell map_ncell q1 hset
         have hEj : E[j]? = some e' := by rw [← Array.getElem?_toList]; exact h4
         refine ⟨.tuple #[e'.val, goInt e'.born], _, ρ, ?_, p1, p2, ?_⟩
         ·simp only [Instr.mapEntry, Sem.run_bind, run_underlying ht, Result.andThen_ok, hg, hc, hr, hEj, Option.map_some, Option.getD_some, Instr.keyThatStays, hbits, if_true, Sem.run_pure, Nat.zero_add]
          rw [r_setObj q1 (by intro _ _ _ e; cases e)]
          rfl
         ·rw [h5.born]; exact pair_vr h5.val (.int _ _)
       ·cases h
      ·rename_i he
       simp only [Option.some.injEq, Prod.mk.injEq] at h
       obtain ⟨rfl, rfl⟩ := h
       obtain ⟨r, hr, hf⟩ := findE_sound (P := P) hW hk hkv q2 he
       cases (show r = none from hf)
       have hset := blk_push q1 q2 q3 q4 hkv hzr
       obtain ⟨p1, p2⟩ := hW.setO hb hL map_ncell map_ncell q1 hset
       rw [← ap_eq] at p1 p2
       refine ⟨.tuple #[zv, goInt clock], _, ρ, ?_, p1, p2, pair_vr hzr (.int _ _)⟩
       simp only [Instr.mapEntry, Sem.run_bind, run_underlying ht, Result.andThen_ok, hg, hc, hr, r_zero w hzv]
       rw [r_setObj q1 (by intro _ _ _ e; cases e)]
       rfl
      ·cases h
   ·cases hb
  ·cases h
 ·cases h
theorem stampE_spec {s : Nat} {v : AV} : ∀ {es es' : List AEnt} {E : List MapEntry}, ERs ρ es E → stampE s v es = some es' →
 ∃ j e e', E.findIdx? (fun x => (x.born : Int) == (s : Int)) = some j ∧ es[j]? = some e ∧ E[j]? = some e' ∧ ER ρ e e' ∧ es'.length = es.length ∧ es'[j]? = some ⟨e.key, v, e.born⟩ ∧ ∀ (q : Nat), q ≠ j → es'[q]? = es[q]?
 | [], es', E, hE, h => by simp [stampE] at h
 | e :: es, es', _, .cons _ _ e' E he hE, h => by
  simp only [stampE] at h
  split at h
  ·rename_i hb
   cases h
   have hb := Nat.eq_of_beq_eq_true hb
   refine ⟨0, e, e', ?_, rfl, rfl, he, by simp, rfl, ?_⟩
   ·rw [List.findIdx?_cons]
    have : ((e'.born : Int) == (s : Int)) = true := by rw [← he.born, hb]; simp
    simp [this]
   ·intro q hq
    cases q with
    | zero => exact absurd rfl hq
    | succ q => rfl
  ·rename_i hb
   split at h
   ·rename_i l hl
    cases h
    obtain ⟨j, a, b, h1, h2, h3, h4, h5, h6, h7⟩ := stampE_spec hE hl
    have hne : e.born ≠ s := by intro e2; rw [e2, Nat.beq_refl] at hb; cases hb
    refine ⟨j + 1, a, b, ?_, by simpa using h2, by simpa using h3, h4, by simp [h5], by simpa using h6, ?_⟩
    ·rw [List.findIdx?_cons]
     have : ((e'.born : Int) == (s : Int)) = false := by rw [← he.born]; simp; omega
     simp [this, h1]
    ·intro q hq
     cases q with
     | zero => rfl
     | succ q => simpa using h7 q (by omega)
   ·cases h
theorem hEst_sound {t : TypeId} {l : List AV} {u s v : Value} {a : AV} (hW : WR ρ H0 m w) (hv : VRs ρ l [u, s, v]) (h : hEst m l = some (a, m')) :
 ActsU P ρ H0 m w (Instr.entryStore t u s v) m' ∧ a = undefA := by
 unfold hEst at h
 split at h
 ·rename_i b k n va
  split at h
  ·rename_i es clock hb
   split at h
   ·rename_i es' hs
    simp only [Option.some.injEq, Prod.mk.injEq] at h
    obtain ⟨rfl, rfl⟩ := h
    refine ⟨?_, rfl⟩
    cases hv with
    | cons _ _ _ _ hm hv => cases hv with
     | cons _ _ _ _ hsv hv => cases hv with
      | cons _ _ _ _ hvv _ =>
       obtain ⟨L, hL, rfl⟩ := map_inv hm
       cases int_inv hsv
       obtain ⟨E, q1, q2, q3, q4⟩ := hW.blk b _ L hb hL
       obtain ⟨j, e, e', h1, h2, h3, h4, h5, h6, h7⟩ := stampE_spec q2 hs
       have hg := r_getObj (P := P) q1 (by intro _ _ _ e; cases e)
       have hset := blk_modify (f := fun x => { x with val := v }) q1 q2 q3 q4 h2 h3 h5 h6 h7 ⟨h4.key, hvv, h4.born⟩
       obtain ⟨p1, p2⟩ := hW.setO hb hL map_ncell map_ncell q1 hset
       refine ⟨_, ρ, ?_, p1, p2⟩
       have hi : E.findIdx? (fun x => (x.born : Int) == (Int.ofNat n)) = some j := by
        obtain ⟨E⟩ := E
        simpa using h1
       simp only [Instr.entryStore, Sem.run_bind, Result.andThen_ok, hg, asInt, asIntOf, Sem.run_pure, hi]
       exact r_setObj q1 (by intro _ _ _ e; cases e)
   ·cases h
  ·cases h
 ·cases h
def Dlt (es es' : List AEnt) (E : List MapEntry) (i : Nat) (r : Option (Nat × Value)) : Prop :=
 (r = none ∧ es' = es) ∨ ∃ (j : Nat) (v : Value), r = some (i + j, v) ∧ j < E.length ∧ es' = es.eraseIdx j
theorem delE_asking (hW : WR ρ H0 m w) {t : TypeId} {kd : EqD} (hk : eqdOf P t = some kd) {k : AV} {kv : Value} (hy : VR ρ k kv) : ∀ (es es' : List AEnt) (E : List MapEntry) (i : Nat), ERs ρ es E → delE m kd k es = some es' →
 ∃ r, (Instr.findAsking t kv E i).run P w = .ok r w ∧ Dlt es es' E i r
 | [], es', _, i, .nil, h => by
  simp only [delE, Option.some.injEq] at h
  subst h
  exact ⟨none, by simp [Instr.findAsking], .inl ⟨rfl, rfl⟩⟩
 | e :: es, es', _, i, .cons _ _ e' E he hE, h => by
  simp only [delE] at h
  split at h
  ·rename_i hq
   simp only [Option.some.injEq] at h
   subst h
   have := eqD_sound hW hk hy he.key hq 9998
   exact ⟨some (i, e'.val), by simp [Instr.findAsking, Op.equal, Op.maxDepth, this], .inr ⟨0, e'.val, rfl, by simp, rfl⟩⟩
  ·rename_i hq
   split at h
   ·rename_i l hu
    simp only [Option.some.injEq] at h
    subst h
    have := eqD_sound hW hk hy he.key hq 9998
    obtain ⟨r, hr, hd⟩ := delE_asking hW hk hy es l E (i + 1) hE hu
    refine ⟨r, by simp [Instr.findAsking, Op.equal, Op.maxDepth, this, hr], ?_⟩
    rcases hd with ⟨h1, h2⟩ | ⟨j, v, h1, h2, h3⟩
    ·exact .inl ⟨h1, by rw [h2]⟩
    ·exact .inr ⟨j + 1, v, by rw [h1]; congr 2; omega, by simpa using h2, by rw [h3]; rfl⟩
   ·cases h
  ·cases h
theorem delE_sound (hW : WR ρ H0 m w) {t : TypeId} {kd : EqD} (hk : eqdOf P t = some kd) {k : AV} {kv : Value} (hy : VR ρ k kv) {es es' : List AEnt} {E : List MapEntry} (hE : ERs ρ es E) (h : delE m kd k es = some es') :
 ∃ r, (Instr.findKey t kv E).run P w = .ok r w ∧ Dlt es es' E 0 r := by
 obtain ⟨d, hu⟩ := eqdOf_under hk
 rw [findKey_asking hu]
 exact delE_asking hW hk hy es es' E 0 hE h
theorem ERs.eraseIdx {es : List AEnt} {E : List MapEntry} (h : ERs ρ es E) (j : Nat) : ERs ρ (es.eraseIdx j) (E.eraseIdx j) := by
 induction h generalizing j with
 | nil => simp; exact .nil
 | cons a l e x hae t ih => cases j with
  | zero => simpa using t
  | succ j => simpa using .cons _ _ _ _ hae (ih j)
theorem hDel_sound {t kt el ty : TypeId} {ts : List TypeId} {kd : EqD} {l : List AV} {u k : Value} {a : AV} (hW : WR ρ H0 m w) (ht : P.underlying t = some (.map kt el)) (hk : eqdOf P kt = some kd) (hv : VRs ρ l [u, k]) (h : hDel kd m l = some (a, m')) :
 Acts P ρ H0 m w (Builtin.delete_ ⟨t :: ts⟩ ty #[u, k]) a m' := by
 unfold hDel at h
 split at h
 ·rename_i mp ka
  cases hv with
  | cons _ _ _ _ hm hv => cases hv with
   | cons _ _ _ _ hkv _ =>
    split at h
    ·split at h
     ·rename_i hok
      simp only [Option.some.injEq, Prod.mk.injEq] at h
      obtain ⟨rfl, rfl⟩ := h
      obtain rfl := nilm_inv hm
      have hc := check_sound (w := w) hk hkv hok true 9998
      refine ⟨undef, w, ρ, ?_, hW, Stp.refl _ _ _ _, undef_vr⟩
      unfold Builtin.delete_
      simp [run_underlying ht, hc, undef]
     ·cases h
    ·rename_i b
     split at h
     ·rename_i es clock hb
      split at hb
      ·rename_i hok
       split at h
       ·rename_i es' hd
        simp only [Option.some.injEq, Prod.mk.injEq] at h
        obtain ⟨rfl, rfl⟩ := h
        obtain ⟨L, hL, rfl⟩ := map_inv hm
        obtain ⟨E, q1, q2, q3, q4⟩ := hW.blk b _ L hb hL
        have hc := check_sound (w := w) hk hkv hok E.isEmpty 9998
        have hg := r_getObj (P := P) q1 (by intro _ _ _ e; cases e)
        obtain ⟨r, hr, hdl⟩ := delE_sound (P := P) hW hk hkv q2 hd
        rcases hdl with ⟨rfl, rfl⟩ | ⟨j, v, rfl, hj, rfl⟩
        ·obtain ⟨p1, p2⟩ := hW.setO (O' := .map E clock) hb hL map_ncell map_ncell q1 ⟨E, setO_get q1, q2, q3, q4⟩
         refine ⟨undef, _, ρ, ?_, p1, p2, undef_vr⟩
         unfold Builtin.delete_
         simp [run_underlying ht, hc, hg, hr, undef]
         rw [r_setObj q1 (by intro _ _ _ e; cases e)]
         rfl
        ·have hE' : (E.eraseIdxIfInBounds j).toList = E.toList.eraseIdx j := by
          simp only [Array.eraseIdxIfInBounds]
          have : j < E.size := by simpa using hj
          rw [dif_pos this]
          simp
         obtain ⟨p1, p2⟩ := hW.setO (B' := .map (es.eraseIdx j) clock) (O' := .map (E.eraseIdxIfInBounds j) clock) hb hL map_ncell map_ncell q1 ⟨_, setO_get q1, by rw [hE']; exact q2.eraseIdx j,
          (List.Sublist.map _ (List.eraseIdx_sublist ..)).nodup q3, fun e he => q4 e ((List.eraseIdx_sublist ..).mem he)⟩
         refine ⟨undef, _, ρ, ?_, p1, p2, undef_vr⟩
         unfold Builtin.delete_
         simp [run_underlying ht, hc, hg, hr, undef]
         rw [r_setObj q1 (by intro _ _ _ e; cases e)]
         rfl
       ·cases h
      ·cases hb
     ·cases h
    ·cases h
 ·cases h
theorem hClrM_sound {t kt el ty : TypeId} {ts : List TypeId} {l : List AV} {u : Value} {a : AV} (hW : WR ρ H0 m w) (ht : P.underlying t = some (.map kt el)) (hv : VRs ρ l [u]) (h : hClrM m l = some (a, m')) :
 Acts P ρ H0 m w (Builtin.clear_ ⟨t :: ts⟩ ty #[u]) a m' := by
 unfold hClrM at h
 split at h
 ·cases h
  cases hv with
  | cons _ _ _ _ hm _ =>
   obtain rfl := nilm_inv hm
   refine ⟨undef, w, ρ, ?_, hW, Stp.refl _ _ _ _, undef_vr⟩
   unfold Builtin.clear_
   simp [run_underlying ht, undef]
 ·rename_i b
  split at h
  ·rename_i es clock hb
   cases h
   cases hv with
   | cons _ _ _ _ hm _ =>
    obtain ⟨L, hL, rfl⟩ := map_inv hm
    obtain ⟨E, q1, q2, q3, q4⟩ := hW.blk b _ L hb hL
    have hg := r_getObj (P := P) q1 (by intro _ _ _ e; cases e)
    obtain ⟨p1, p2⟩ := hW.setO (B' := .map [] clock) (O' := .map #[] clock) hb hL map_ncell map_ncell q1 ⟨_, setO_get q1, .nil, by simp, by simp⟩
    refine ⟨undef, _, ρ, ?_, p1, p2, undef_vr⟩
    unfold Builtin.clear_
    simp [run_underlying ht, hg, undef]
    rw [r_setObj q1 (by intro _ _ _ e; cases e)]
    rfl
  ·cases h
 ·cases h
end Go.Vm

namespace Go.Vm
open Go Go.RowKit
variable {P : Program} {mid : String → Option Nat} {ρ ρ' : Rho} {H0 : Nat} {m m' : Mem} {w w' : World} {e : Env} {loc : List AV} {σ : Operand → Option Opd} {ev : Operand → Value}
theorem srcOf_sound {sz n : Nat} {l : List AV} {x : AV} {u : Value} (hW : WR ρ H0 m w) (hx : VR ρ x u) (h : srcOf m sz x = some (n, l)) :
 ∃ vs : List Value, VRs ρ l vs ∧ (∀ w', (Builtin.lenOf u).run P w' = .ok n w') ∧ (∀ w', w'.heap = w.heap → ∀ k, k ≤ n → (Builtin.firstCells sz k u).run P w' = .ok ⟨vs.take (k * sz)⟩ w') ∧ l.length = n * sz ∧ (∀ k, u ≠ .int k n) := by
 have nil0 : ∀ (a : Addr) (w : World), (loadCells a 0).run P w = .ok #[] w := fun a w => by simpa using run_loadCells_list (P := P) (w := w) a [] (by simp)
 unfold srcOf at h
 split at h
 ·rename_i b o s n' lb ex
  obtain ⟨L, ad, cap, hL, rfl, h1, h2, h3, h4⟩ := slice_inv hx
  split at h
  ·cases h
   refine ⟨[], .nil, fun _ => rfl, ?_, by simp, by intro k e; cases e⟩
   intro w' he k hk
   have : k = 0 := by omega
   subst this
   simp [Builtin.firstCells, nil0]
  ·rename_i n0 hn0
   split at h
   ·rename_i B hsz hB
    split at h
    ·rename_i c hc
     split at h
     ·rename_i l' hl
      cases h
      obtain rfl := Nat.eq_of_beq_eq_true hsz
      cases B <;> simp only [cellsOf, Option.some.injEq, reduceCtorEq] at hc
      subst hc
      obtain ⟨C, t', fr, q1, q2⟩ := hW.blk b _ L hB hL
      have hcap : cap ≠ 0 := by
       have : n ≠ 0 := fun e => hn0 e
       omega
      obtain ⟨rfl, hr⟩ := h4.resolve_left hcap
      obtain ⟨rfl, hlen⟩ := cut_some hl
      have hv := q2.slice hlen
      have hroom := q2.room; have hfits := q2.fits
      refine ⟨_, hv, fun _ => rfl, ?_, by simp; omega, by intro k e; cases e⟩
      intro w' he k hk
      have hks : k * s ≤ n * s := Nat.mul_le_mul_right s hk
      have := r_loadCells (P := P) w' (L := L) (C := C) (t := t') (fr := fr) (by rw [he]; exact q1) o (k * s) (by omega)
      simp only [Builtin.firstCells, this, List.take_take, Nat.min_eq_left hks]
     ·cases h
    ·cases h
   ·cases h
 ·obtain rfl := nils_inv hx
  cases h
  refine ⟨[], .nil, fun _ => rfl, ?_, by simp, by intro k e; cases e⟩
  intro w' he k hk
  simp [Builtin.firstCells]
 ·rename_i n' v
  split at h
  ·rename_i hsz
   cases h
   obtain rfl := Nat.eq_of_beq_eq_true hsz
   obtain ⟨s, rfl, hs⟩ := str_inv hx
   obtain ⟨rfl, rfl⟩ := strR_list hs
   rw [unpackS_pack]
   have hsl : s.data.toList.length = s.size := by rw [Array.length_toList]; rfl
   refine ⟨_, bytes_vr _, fun _ => by rw [hsl]; rfl, ?_, by simp, by intro k e; cases e⟩
   intro w' he k hk
   simp only [Builtin.firstCells, Sem.run_pure, Nat.mul_one]
   congr 1
   apply Array.ext'
   simp [ByteArray.data_extract, List.extract]
  ·cases h
 ·cases h
theorem hCpy_sound {t el sz ty : Nat} {ts : List TypeId} {l : List AV} {u v : Value} {a : AV} (hW : WR ρ H0 m w) (ht : P.underlying t = some (.slice el)) (hs : szOf P el = some sz) (hv : VRs ρ l [u, v]) (h : hCpy sz m l = some (a, m')) :
 Acts P ρ H0 m w (Builtin.copy_ ⟨t :: ts⟩ ty #[u, v]) a m' := by
 unfold hCpy at h
 split at h
 ·rename_i d s
  cases hv with
  | cons _ _ _ _ hd hv => cases hv with
   | cons _ _ _ _ hsv _ =>
    split at h
    ·split at h
     ·rename_i p hp
      cases h
      obtain rfl := nils_inv hd
      obtain ⟨n, l⟩ := p
      obtain ⟨vs, q1, q2, q3, q4, _⟩ := srcOf_sound (P := P) hW hsv hp
      have := q3 w rfl 0 (Nat.zero_le _)
      have q2 := q2 w
      refine ⟨.int .i64 0, w, ρ, ?_, hW, Stp.refl _ _ _ _, .int _ _⟩
      unfold Builtin.copy_
      simp [run_underlying ht, q2, r_size w hs, this, goInt]
     ·cases h
    ·rename_i b o s' len lb ex
     split at h
     ·rename_i k l hsz hsrc
      obtain rfl := Nat.eq_of_beq_eq_true hsz
      obtain ⟨L, ad, cap, hL, rfl, h1, h2, h3, h4⟩ := slice_inv hd
      obtain ⟨vs, q1, q2, q3, q4, _⟩ := srcOf_sound (P := P) hW hsv hsrc
      generalize hn : minN k len = n at h
      have hmin : n = Nat.min k len := by
       rw [← hn]
       unfold minN
       split
       ·rename_i e; have := Nat.le_of_ble_eq_true e; simp [this]
       ·rename_i e
        have : ¬ k ≤ len := fun h => by rw [Nat.ble_eq_true_of_le h] at e; cases e
        simp [Nat.min_def, this]
      split at h
      ·rename_i m1 hm1
       cases h
       rw [tk_eq] at hm1
       obtain ⟨w', p1, p2, p3⟩ := write_sound (P := P) hW hL (q1.take (n * s')) hm1
       have q2 := q2 w
       have hld := q3 w rfl n (by rw [hmin]; exact Nat.min_le_left _ _)
       have hst : (storeCells ad (vs.take (n * s'))).run P w = .ok () w' := by
        by_cases hc : cap = 0
        ·have : n = 0 := by
          have : n ≤ len := by rw [hmin]; exact Nat.min_le_right k len
          omega
         subst this
         simp only [Nat.zero_mul, List.take_zero] at p1 ⊢
         exact p1
        ·rw [(h4.resolve_left hc).1]; exact p1
       refine ⟨.int .i64 n, w', ρ, ?_, p2, p3, .int _ _⟩
       unfold Builtin.copy_
       simp only [List.getElem?_toArray, List.getElem?_cons_zero, List.getElem?_cons_succ, Sem.run_bind, run_underlying ht, Result.andThen_ok, q2, r_size w hs, ← hmin, hld, hst, Sem.run_pure, goInt]
      ·cases h
     ·cases h
    ·cases h
 ·cases h
theorem hClrS_sound {t el sz ty : Nat} {ts : List TypeId} {z l : List AV} {u : Value} {a : AV} (hW : WR ρ H0 m w) (ht : P.underlying t = some (.slice el)) (_ : szOf P el = some sz) (hz : zeroC P el = some z) (hv : VRs ρ l [u]) (h : hClrS sz z m l = some (a, m')) :
 Acts P ρ H0 m w (Builtin.clear_ ⟨t :: ts⟩ ty #[u]) a m' := by
 obtain ⟨zv, hzv, hzr⟩ := zeroC_sound ρ hz
 unfold hClrS at h
 split at h
 ·cases h
  cases hv with
  | cons _ _ _ _ hm _ =>
   obtain rfl := nils_inv hm
   refine ⟨undef, w, ρ, ?_, hW, Stp.refl _ _ _ _, undef_vr⟩
   unfold Builtin.clear_
   simp [run_underlying ht, undef]
 ·rename_i b o s n lb ex
  cases hv with
  | cons _ _ _ _ hm _ =>
   obtain ⟨L, ad, cap, hL, rfl, h1, h2, h3, h4⟩ := slice_inv hm
   split at h
   ·cases h
    refine ⟨undef, w, ρ, ?_, hW, Stp.refl _ _ _ _, undef_vr⟩
    unfold Builtin.clear_
    simp [run_underlying ht, undef]
   ·rename_i n0 hn0
    split at h
    ·split at h
     ·rename_i m1 hm1
      cases h
      have hzeros := repl_vr hzr n
      obtain ⟨w', p1, p2, p3⟩ := write_sound (P := P) hW hL hzeros hm1
      have hn : n ≠ 0 := fun e => hn0 e
      obtain ⟨k, rfl⟩ := Nat.exists_eq_succ_of_ne_zero hn
      obtain ⟨rfl, _⟩ := h4.resolve_left (by omega)
      refine ⟨undef, w', ρ, ?_, p2, p3, undef_vr⟩
      have hzc : Builtin.zeroCells zv.cells (k + 1) = (Array.range ((k + 1) * zv.cells.size)).map (fun i => zv.cells[i % zv.cells.size]!) := rfl
      unfold Builtin.clear_
      simp only [List.getElem?_toArray, List.getElem?_cons_zero, Sem.run_bind, run_underlying ht, Result.andThen_ok, r_zero w hzv]
      rw [hzc, p1]
      rfl
     ·cases h
    ·cases h
 ·cases h
theorem hRng_sound {t : TypeId} {l : List AV} {u : Value} {a : AV} (hW : WR ρ H0 m w) (ht : P.underlying t = some .string) (hv : VRs ρ l [u]) (h : hRng m l = some (a, m')) : Acts P ρ H0 m w (Instr.range t u) a m' := by
 unfold hRng at h
 split at h
 ·rename_i len v
  cases h
  cases hv with
  | cons _ _ _ _ hx _ =>
   obtain ⟨s, rfl, hs⟩ := str_inv hx
   have hnx : ρ m.nx = none := by
    cases e : ρ m.nx with
    | none => rfl
    | some L => exact absurd (hW.dom _ _ e).2 (Nat.lt_irrefl _)
   have hp : Plain (.siter len v 0) := by intro _ _ _ _ _ h; cases h
   have hW1 := hW.newB hp
   have hg : (newB m (.siter len v 0)).bl.get m.nx = some (.siter len v 0) := by simp [newB, T.get_set]
   have hW2 := WR.alloc hW1 (room := 1) (O := .stringIter s 0) hg hnx hp ⟨rfl, s, alloc_get w _, hs⟩
   refine ⟨.pointer (some ⟨w.heap.size, 0, none⟩), w.alloc (.stringIter s 0), _, ?_, hW2, ⟨ρ.le_put _ hnx, Nat.le_succ _, ?_, below_alloc hW _⟩, .ptr _ 0 ⟨w.heap.size, 0, 1⟩ (ρ.put_at _ _)⟩
   ·unfold Instr.range
    simp only [Sem.run_bind, run_underlying ht, Result.andThen_ok, Sem.run_pure]
    rfl
   ·intro x hx he
    have : x ≠ m.nx := by omega
    exact ⟨by rw [ρ.put_ne _ this]; exact he, by simp [newB, T.get_set, this]⟩
 ·cases h
end Go.Vm

namespace Go.Vm
open Go Go.RowKit
variable {P : Program} {ρ ρ' : Rho} {H0 : Nat} {m m' : Mem} {w w' : World}
theorem WR.less (h : WR ρ H0 m w) (hnx : m'.nx = m.nx) (ha : ∀ x B, m'.bl.get x = some B → m.bl.get x = some B) (hl : ∀ k ids', m'.cl.get k = some ids' → ∃ ids, m.cl.get k = some ids ∧ ∀ x ∈ ids', x ∈ ids)
 (hc : ∀ x k st ro fz c, m'.bl.get x = some (.cells k st ro fz c) → k ≠ 0 → ∃ ids', m'.cl.get k = some ids' ∧ x ∈ ids') (hsz : w'.heap.size = w.heap.size)
 (hw : ∀ x B K, m'.bl.get x = some B → ρ x = some K → BlkR ρ B K w') : WR ρ H0 m' w' :=
 ⟨hw, fun x K hK => by rw [hsz, hnx]; exact h.dom x K hK, fun x B hB => by rw [hnx]; exact h.live x B (ha x B hB),
  fun x y B C K L hxy hB hC => h.inj x y B C K L hxy (ha x B hB) (ha y C hC), hc, fun k ids' x hi hx => by
   obtain ⟨ids, h1, h2⟩ := hl k ids' hi
   exact h.cld k ids x h1 (h2 x hx), fun x B K hB => h.low x B K (ha x B hB), by rw [hsz]; exact h.le⟩
theorem WR.add (h : WR ρ H0 m w) {cls st : Nat} {ro : Bool} {fz : Nat} {c : List AV} {ids : List Nat} {L : Loc} (hi : m.cl.get cls = some ids) (hlt : L.blk < w.heap.size) (hlo : H0 ≤ L.blk)
 (hB : BlkR (ρ.put m.nx L) (.cells cls st ro fz c) L w) (hsh : ∀ x C K, m.bl.get x = some C → ρ x = some K → K.blk = L.blk → Shares C (.cells cls st ro fz c) K L)
 (e1 : m'.nx = m.nx + 1) (e2 : ∀ x, m'.bl.get x = if x = m.nx then some (.cells cls st ro fz c) else m.bl.get x) (e3 : ∀ k, m'.cl.get k = if k = cls then some (m.nx :: ids) else m.cl.get k) :
 ρ m.nx = none ∧ WR (ρ.put m.nx L) H0 m' w := by
 have hnx : ρ m.nx = none := by
  cases e : ρ m.nx with
  | none => rfl
  | some L => exact absurd (h.dom _ _ e).2 (Nat.lt_irrefl _)
 refine ⟨hnx, ?_⟩
 have hle := ρ.le_put L hnx
 have hold : ∀ x K, x ≠ m.nx → (ρ.put m.nx L) x = some K → ρ x = some K := by intro x K hx hK; rw [ρ.put_ne _ hx] at hK; exact hK
 refine ⟨?_, ?_, ?_, ?_, ?_, ?_, ?_, h.le⟩
 ·intro x C K hC hK
  rw [e2] at hC
  split at hC
  ·rename_i hx; subst hx; cases hC; rw [ρ.put_at] at hK; cases hK; exact hB
  ·rename_i hx; exact (h.blk x C K hC (hold x K hx hK)).mono hle
 ·intro x K hK
  rw [e1]
  by_cases hx : x = m.nx
  ·subst hx; rw [ρ.put_at] at hK; cases hK; exact ⟨hlt, Nat.lt_succ_self _⟩
  ·have := h.dom x K (hold x K hx hK); exact ⟨this.1, Nat.lt_succ_of_lt this.2⟩
 ·intro x C hC
  rw [e2] at hC; rw [e1]
  split at hC
  ·rename_i hx; subst hx; exact Nat.lt_succ_self _
  ·exact Nat.lt_succ_of_lt (h.live x C hC)
 ·intro x y C D K M hxy hC hD hK hM he
  rw [e2] at hC hD
  split at hC
  ·rename_i hx; subst hx; cases hC; rw [ρ.put_at] at hK; cases hK
   rw [if_neg (Ne.symm hxy)] at hD
   obtain ⟨k, s, r, f, d, s', r', f', d', q1, q2, q3, q4⟩ := hsh y D M hD (hold y M (Ne.symm hxy) hM) he.symm
   cases q2
   exact ⟨cls, st, ro, fz, c, s, r, f, d, rfl, q1, q3, q4.symm⟩
  ·rename_i hx
   split at hD
   ·rename_i hy; subst hy; cases hD; rw [ρ.put_at] at hM; cases hM
    exact hsh x C K hC (hold x K hx hK) he
   ·rename_i hy
    exact h.inj x y C D K M hxy hC hD (hold x K hx hK) (hold y M hy hM) he
 ·intro x k s r f d hd hk
  rw [e2] at hd
  rw [e3]
  split at hd
  ·rename_i hx; subst hx; cases hd; exact ⟨_, if_pos rfl, List.mem_cons_self⟩
  ·obtain ⟨ids', h1, h2⟩ := h.cls x k s r f d hd hk
   split
   ·rename_i hkc; subst hkc; rw [hi] at h1; cases h1; exact ⟨_, rfl, List.mem_cons_of_mem _ h2⟩
   ·exact ⟨ids', h1, h2⟩
 ·intro k ids' x hk hx e
  rw [e3] at hk
  have : ρ x ≠ none ∨ x = m.nx := by
   split at hk
   ·rename_i hkc; subst hkc; cases hk
    rcases List.mem_cons.1 hx with e' | hx
    ·exact .inr e'
    ·exact .inl (h.cld k ids x hi hx)
   ·exact .inl (h.cld k ids' x hk hx)
  by_cases hxn : x = m.nx
  ·subst hxn; rw [ρ.put_at] at e; cases e
  ·rw [ρ.put_ne _ hxn] at e
   rcases this with h' | h'
   ·exact h' e
   ·exact hxn h'
 ·intro x C K hC hK hlt'
  rw [e2] at hC
  split at hC
  ·rename_i hx; subst hx; rw [ρ.put_at] at hK; cases hK; omega
  ·rename_i hx; exact h.low x C K hC (hold x K hx hK) hlt'
theorem WR.class (h : WR ρ H0 m w) {b st cls : Nat} {ro : Bool} {fz : Nat} {c : List AV} {L : Loc} (hb : m.bl.get b = some (.cells 0 st ro fz c)) (hL : ρ b = some L) (hcls : cls ≠ 0) (hnew : m.cl.get cls = none)
 (e1 : m'.nx = m.nx) (e2 : ∀ x, m'.bl.get x = if x = b then some (.cells cls st ro fz c) else m.bl.get x) (e3 : ∀ k, m'.cl.get k = if k = cls then some [b] else m.cl.get k) : WR ρ H0 m' w := by
 have hne : ∀ x C K, x ≠ b → m.bl.get x = some C → ρ x = some K → K.blk ≠ L.blk := by
  intro x C K hx hC hK e
  obtain ⟨_, _, _, _, _, _, _, _, _, _, e2, e3, _⟩ := h.inj x b C _ K L hx hC hb hK hL e
  cases e2
  exact e3 rfl
 refine ⟨?_, ?_, ?_, ?_, ?_, ?_, ?_, h.le⟩
 ·intro x C K hC hK
  rw [e2] at hC
  split at hC
  ·rename_i hx; subst hx; cases hC; rw [hL] at hK; cases hK
   have : BlkR ρ (.cells 0 st ro fz c) L w := h.blk x _ L hb hL
   exact this
  ·exact h.blk x C K hC hK
 ·intro x K hK; rw [e1]; exact h.dom x K hK
 ·intro x C hC
  rw [e2] at hC; rw [e1]
  split at hC
  ·rename_i hx; subst hx; exact h.live x _ hb
  ·exact h.live x C hC
 ·intro x y C D K M hxy hC hD hK hM he
  rw [e2] at hC hD
  split at hC
  ·rename_i hx; subst hx; rw [hL] at hK; cases hK
   rw [if_neg (Ne.symm hxy)] at hD
   exact absurd he.symm (hne y D M (Ne.symm hxy) hD hM)
  ·rename_i hx
   split at hD
   ·rename_i hy; subst hy; rw [hL] at hM; cases hM
    exact absurd he (hne x C K hx hC hK)
   ·exact h.inj x y C D K M hxy hC hD hK hM he
 ·intro x k s r f d hd hk
  rw [e2] at hd
  rw [e3]
  split at hd
  ·rename_i hx; subst hx; cases hd; exact ⟨_, if_pos rfl, List.mem_cons_self⟩
  ·obtain ⟨ids', h1, h2⟩ := h.cls x k s r f d hd hk
   split
   ·rename_i hkc; subst hkc; rw [hnew] at h1; cases h1
   ·exact ⟨ids', h1, h2⟩
 ·intro k ids' x hk hx e
  rw [e3] at hk
  split at hk
  ·cases hk
   rcases List.mem_cons.1 hx with e' | hx
   ·subst e'; rw [hL] at e; cases e
   ·cases hx
  ·exact h.cld k ids' x hk hx e
 ·intro x C K hC hK hlt
  rw [e2] at hC
  split at hC
  ·rename_i hx; subst hx; cases hC; rw [hL] at hK; cases hK
   obtain ⟨_, _, _, e⟩ := h.low x _ L hb hL hlt
   cases e
   exact ⟨_, _, _, rfl⟩
  ·exact h.low x C K hC hK hlt
end Go.Vm

namespace Go.Vm
open Go Go.RowKit
variable {P : Program} {ρ ρ' : Rho} {H0 : Nat} {m m' : Mem} {w w' : World}
theorem sAt_over (l : List UInt8) (i : Nat) (h : l.length ≤ i) : sAt (packB l) i = 0 := by
 unfold sAt
 have h1 : Nat.shiftRight (packB l) (Nat.mul 8 i) = packB (l.drop i) := by
  show packB l >>> (8 * i) = _
  rw [Nat.shiftRight_eq_div_pow, pow256, packB_drop]
 rw [h1, List.drop_eq_nil_of_le h]
 rfl
theorem strAt {len v : Nat} {s : ByteArray} (h : StrR len v s) (j : Nat) : (s.get! j).toNat = sAt v j := by
 obtain ⟨e1, rfl⟩ := strR_list h
 rcases Nat.lt_or_ge j s.data.toList.length with hj | hj
 ·rw [sAt_pack _ _ hj]
  have hj' : j < s.data.size := by simpa using hj
  show (s.data[j]!).toNat = _
  rw [getElem!_pos s.data j hj']
  simp
 ·rw [sAt_over _ _ hj]
  have hj' : ¬ j < s.data.size := by rw [← Array.length_toList]; omega
  show (s.data[j]!).toNat = 0
  rw [getElem!_neg s.data j hj']
  rfl
theorem dec_eq {len v i : Nat} {s : ByteArray} (h : StrR len v s) : Utf8.decode s i = decA len v i := by
 have hs : s.size = len := h.1
 have hb : ∀ a b : Nat, (a == b) = Nat.beq a b := fun a b => by rw [Bool.eq_iff_iff]; simp
 have hl : ∀ k, decide (i + k < s.size) = Nat.ble (i + k + 1) len := fun k => by rw [Bool.eq_iff_iff]; simp [hs]; omega
 have hv : ∀ c : Nat, Utf8.valid (c : Int) = (Nat.blt c 55296 || (Nat.ble 57344 c && Nat.ble c 1114111)) := fun c => by
  unfold Utf8.valid
  rw [Bool.eq_iff_iff]
  simp only [Bool.or_eq_true, Bool.and_eq_true, decide_eq_true_eq, Nat.blt_eq, Nat.ble_eq]
  constructor <;> intro h <;> omega
 have nd : ∀ a b : Nat, Nat.div a b = a / b := fun _ _ => rfl
 have nm : ∀ a b : Nat, Nat.mod a b = a % b := fun _ _ => rfl
 unfold Utf8.decode decA
 simp only [strAt h, hb, hl, hv, Utf8.runeError, Nat.add_zero, ite_eq_if, Nat.blt_eq, ge_iff_le, Nat.ble_eq, Bool.and_assoc, Nat.add_assoc, Nat.reduceAdd, nd, nm]
 generalize sAt v i = b0
 generalize sAt v (i + 1) = b1
 generalize sAt v (i + 2) = b2
 generalize sAt v (i + 3) = b3
 have h1 := Nat.mod_lt b0 (show 0 < 16 by omega)
 have h2 := Nat.mod_lt b1 (show 0 < 64 by omega)
 have h3 := Nat.mod_lt b2 (show 0 < 64 by omega)
 obtain ⟨c3, hc3⟩ : ∃ c, b0 % 16 * 4096 + (b1 % 64 * 64 + b2 % 64) = c := ⟨_, rfl⟩
 obtain ⟨c4, hc4⟩ : ∃ c, b0 % 8 * 262144 + (b1 % 64 * 4096 + (b2 % 64 * 64 + b3 % 64)) = c := ⟨_, rfl⟩
 have k3 : c3 ≤ 1114111 := by omega
 have e3 : (decide (2048 ≤ c3) && (Nat.blt c3 55296 || (Nat.ble 57344 c3 && Nat.ble c3 1114111))) = (Nat.ble 2048 c3 && (Nat.blt c3 55296 || Nat.ble 57344 c3)) := by
  rw [Bool.eq_iff_iff]
  simp only [Bool.and_eq_true, Bool.or_eq_true, decide_eq_true_eq, Nat.blt_eq, Nat.ble_eq]
  omega
 have e4 : (decide (65536 ≤ c4) && (Nat.blt c4 55296 || (Nat.ble 57344 c4 && Nat.ble c4 1114111))) = (Nat.ble 65536 c4 && Nat.ble c4 1114111) := by
  rw [Bool.eq_iff_iff]
  simp only [Bool.and_eq_true, Bool.or_eq_true, decide_eq_true_eq, Nat.blt_eq, Nat.ble_eq]
  omega
 simp only [hc3, hc4, e3, e4]
theorem hNxt_sound {t : TypeId} {l : List AV} {u : Value} {a : AV} (hW : WR ρ H0 m w) (hv : VRs ρ l [u]) (h : hNxt m l = some (a, m')) : Acts P ρ H0 m w (Instr.next u true t) a m' := by
 unfold hNxt at h
 split at h
 ·rename_i b
  cases hv with
  | cons _ _ _ _ hx _ =>
   split at h
   ·rename_i len v pos hb
    obtain ⟨L, hL, rfl⟩ := ptr_inv hx
    obtain ⟨hoff, s, hs, hr⟩ := hW.blk b _ L hb hL
    have hg : (getObj L.blk).run P w = .ok (.stringIter s pos) w := r_getObj (P := P) hs (by intro _ _ _ e; cases e)
    have hi : (Instr.next (.pointer (some (L.at 0))) true t) = (do
     match ← getObj L.blk, true with
     | .stringIter s pos, true =>
      if pos < s.size then
       let (c, width) := Utf8.decode s pos
       setObj L.blk (.stringIter s (pos + width))
       pure (.tuple #[.bool true, goInt pos, .int .i32 c])
      else pure (.tuple #[.bool false])
     | .mapIter none _ _ _, false => pure (.tuple #[.bool false])
     | .mapIter (some m) since seen last, false =>
      let .map es clock ← getObj m | stuck "Next: map expected"
      if !seen.isEmpty && !es.isEmpty && es.all (·.born ≥ last) then
       unsupported (.noEntry "instr/Next: every entry that the ranged map held at the last iteration is gone, and it holds new ones")
      let left := es.filter fun e => !seen.contains e.born
      let old := left.filter (·.born < since)
      let new := left.filter (·.born ≥ since)
      let candidates := (if old.isEmpty then #[none] else #[]) ++ (old ++ new).map some
      match candidates[← choose (.mapNext candidates.size)]? with
      | some (some e) =>
       setObj L.blk (.mapIter (some m) since (seen.push e.born) clock)
       pure (.tuple #[.bool true, e.key, e.val])
      | some none => pure (.tuple #[.bool false])
      | none => stuck "Next: no such candidate"
     | _, _ => stuck "Next: iterator of the other kind") := by
     simp only [Loc.at, hoff]
     rfl
    split at h
    ·rename_i hlt
     have hlt' : pos < s.size := by rw [hr.1]; simpa using hlt
     cases hd : decA len v pos with
     | mk c wd =>
      rw [hd] at h
      cases h
      have hset : (setObj L.blk (.stringIter s (pos + wd))).run P w = .ok () (World.setO w L.blk (.stringIter s (pos + wd))) := r_setObj hs (by intro _ _ _ e; cases e)
      obtain ⟨p1, p2⟩ := hW.setO (B' := .siter len v (pos + wd)) (O' := .stringIter s (pos + wd)) hb hL (by intro _ _ _ _ _ e; cases e) (by intro _ _ _ _ _ e; cases e) hs ⟨hoff, s, setO_get hs, hr⟩
      refine ⟨.tuple #[.bool true, goInt pos, .int .i32 c], _, ρ, ?_, p1, p2, ?_⟩
      ·rw [hi, Sem.run_bind, hg, Result.andThen_ok]
       simp only [hlt', if_true, dec_eq hr, hd, Sem.run_bind, hset, Result.andThen_ok, Sem.run_pure]
      ·exact .tup _ _ (.cons _ _ _ _ (.bool _) (.cons _ _ _ _ (.int _ _) (VRs.one (.int _ _))))
    ·rename_i hlt
     cases h
     have hlt' : ¬ pos < s.size := by rw [hr.1]; intro e; rw [show Nat.blt pos len = true from by simpa using e] at hlt; cases hlt
     refine ⟨.tuple #[.bool false], w, ρ, ?_, hW, Stp.refl _ _ _ _, .tup _ _ (VRs.one (.bool _))⟩
     rw [hi, Sem.run_bind, hg, Result.andThen_ok]
     simp only [hlt', if_false, Sem.run_pure]
   ·cases h
 ·cases h
theorem dropO_get (me : Nat) : ∀ (ids : List Nat) (bl : T ABlk) (x : Nat), (dropO me ids bl).get x = if x ≠ me ∧ x ∈ ids then none else bl.get x
 | [], bl, x => by simp [dropO]
 | b :: bs, bl, x => by
  simp only [dropO]
  split
  ·rename_i h
   obtain rfl := Nat.eq_of_beq_eq_true h
   rw [dropO_get _ bs bl x]
   by_cases hx : x = b
   ·subst hx; simp
   ·simp [hx]
  ·rename_i h
   have hb : b ≠ me := by intro e; subst e; rw [Nat.beq_refl] at h; cases h
   rw [dropO_get me bs _ x, T.get_set]
   by_cases hx : x = b
   ·subst hx; simp [hb]
   ·simp [hx]
theorem freeze_get {w : World} {b o n : Nat} {C : Array Value} {t : TypeId} {fr : Nat × Nat} (h : w.heap[b]? = some (.cells C t fr)) : ∃ fr', (w.freeze ⟨b, o, none⟩ n).heap[b]? = some (.cells C t fr') := by
 unfold World.freeze
 split
 ·exact ⟨fr, h⟩
 ·obtain ⟨lo, hi⟩ := fr
  simp only [Array.getElem?_modify, if_true, h, Option.map_some]
  exact ⟨_, rfl⟩
theorem freeze_other {w : World} {b o n k : Nat} (h : k ≠ b) : (w.freeze ⟨b, o, none⟩ n).heap[k]? = w.heap[k]? := by
 unfold World.freeze
 split
 ·rfl
 ·simp only [Array.getElem?_modify]
  rw [if_neg (Ne.symm h)]
theorem freeze_size {w : World} {a : Addr} {n : Nat} : (w.freeze a n).heap.size = w.heap.size := by
 unfold World.freeze
 split <;> simp
theorem WR.usr (hW : WR ρ H0 m w) {b cls st o n fz : Nat} {ro : Bool} {c : List AV} {L : Loc} (hb : m.bl.get b = some (.cells cls st ro fz c)) (hL : ρ b = some L) (hfz : fz / 2 ≠ 0)
 (hnx : m'.nx = m.nx) (hat : m'.bl.get b = some (.cells cls st true (2 * (fz / 2)) c)) (hcl : m'.cl = m.cl)
 (hoth : ∀ x B, x ≠ b → m'.bl.get x = some B → m.bl.get x = some B ∧ ∀ K, ρ x = some K → K.blk ≠ L.blk)
 (hph : ∀ x, x < m.nx → ρ x = none → m'.bl.get x = m.bl.get x) :
 WR ρ H0 m' (w.freeze ⟨L.blk, o, none⟩ n) ∧ Stp H0 ρ m w ρ m' (w.freeze ⟨L.blk, o, none⟩ n) := by
 have hL0 : H0 ≤ L.blk := by
  rcases Nat.lt_or_ge L.blk H0 with hlt | hge
  ·obtain ⟨_, _, _, e⟩ := hW.low b _ L hb hL hlt
   cases e
   exact absurd rfl hfz
  ·exact hge
 obtain ⟨C, t, fr, q1, q2⟩ := hW.blk b _ L hb hL
 have hsz := freeze_size (w := w) (a := ⟨L.blk, o, none⟩) (n := n)
 refine ⟨⟨?_, ?_, ?_, ?_, ?_, ?_, ?_, by rw [hsz]; exact hW.le⟩, ⟨Rho.le_refl _, Nat.le_of_eq hnx.symm, fun x hx he => ⟨he, hph x hx he⟩, ⟨?_, ?_, ?_, Nat.le_of_eq hsz.symm, fun k hk => freeze_other (by omega)⟩⟩⟩
 ·intro x B K hB hK
  by_cases hx : x = b
  ·subst hx
   rw [hL] at hK; cases hK
   rw [hat] at hB; cases hB
   obtain ⟨fr', p1⟩ := freeze_get (o := o) (n := n) q1
   exact ⟨C, t, fr', p1, ⟨q2.room, q2.fits, q2.cell, fun e => (by cases e), fun e => (by omega), q2.tag.of (by omega) rfl rfl rfl⟩⟩
  ·obtain ⟨h1, h2⟩ := hoth x B hx hB
   exact (hW.blk x B K h1 hK).same (freeze_other (h2 K hK))
 ·intro x K hK; rw [hsz, hnx]; exact hW.dom x K hK
 ·intro x B hB
  rw [hnx]
  by_cases hx : x = b
  ·subst hx; exact hW.live x _ hb
  ·exact hW.live x B (hoth x B hx hB).1
 ·intro x y B D K M hxy hB hD hK hM he
  by_cases hx : x = b
  ·subst hx
   rw [hL] at hK; cases hK
   exact absurd he.symm ((hoth y D (Ne.symm hxy) hD).2 M hM)
  ·by_cases hy : y = b
   ·subst hy
    rw [hL] at hM; cases hM
    exact absurd he ((hoth x B hx hB).2 K hK)
   ·exact hW.inj x y B D K M hxy (hoth x B hx hB).1 (hoth y D hy hD).1 hK hM he
 ·intro x k s r f d hB hk
  rw [hcl]
  by_cases hx : x = b
  ·subst hx
   rw [hat] at hB; cases hB
   exact hW.cls x _ _ _ _ _ hb hk
  ·exact hW.cls x _ _ _ _ _ (hoth x _ hx hB).1 hk
 ·intro k ids x hi hx
  rw [hcl] at hi
  exact hW.cld k ids x hi hx
 ·intro x B K hB hK hlt
  by_cases hx : x = b
  ·subst hx; rw [hL] at hK; cases hK; omega
  ·exact hW.low x B K (hoth x B hx hB).1 hK hlt
 all_goals (unfold World.freeze; split <;> rfl)
theorem lies_row {e : TypeId} (hc : P.cellsOf e = 1) (count off n : Nat) (hn : off + n ≤ count) : liesAt P P.depth e count off e n = true := by
 have hd : P.depth = (2 * (P.types.size + Made.depth) + 1) + 1 := rfl
 rw [hd]
 simp only [liesAt, Bool.or_eq_true]
 left
 rw [hd]
 simp [rowAt, hc, hn, sameLayout, Nat.mod_one]
theorem usr_none (pt : TypeId) (ts : List TypeId) (ty : TypeId) (v : Value) : Builtin.unsafeString_ ⟨pt :: ts⟩ ty #[.pointer none, v] = (do
 let n ← asInt v
 if n < 0 then runtimePanic (.error "unsafe.String: len out of range")
 if n > IntKind.i64.max then unsupported (.unsafePointer "String: a length above the largest int")
 if n = 0 then pure (.string .empty) else runtimePanic (.error "unsafe.String: ptr is nil and len is not zero")) := rfl
theorem usr_some (pt : TypeId) (ts : List TypeId) (ty : TypeId) (a : Addr) (v : Value) : Builtin.unsafeString_ ⟨pt :: ts⟩ ty #[.pointer (some a), v] = (do
 let n ← asInt v
 if n < 0 then runtimePanic (.error "unsafe.String: len out of range")
 if n > IntKind.i64.max then unsupported (.unsafePointer "String: a length above the largest int")
 if n = 0 then pure (.string .empty)
 else if ← variablesAt a (← elemOf pt) n.toNat then do
  let s ← loadBytes a .empty n.toNat
  freeze a n.toNat
  pure (.string s)
 else unsupported (.unsafePointer "String: not so many bytes at ptr")) := rfl
theorem hUsr_sound {pt e ty : TypeId} {l : List AV} {u v : Value} {a : AV} (hW : WR ρ H0 m w) (hp : P.underlying pt = some (.pointer e)) (hc : P.cellsOf e = 1) (ts : List TypeId) (hv : VRs ρ l [u, v]) (h : hUsr e m l = some (a, m')) :
 Acts P ρ H0 m w (Builtin.unsafeString_ ⟨pt :: ts⟩ ty #[u, v]) a m' := by
 unfold hUsr at h
 split at h
 ·rename_i p k n
  cases hv with
  | cons _ _ _ _ hx hy => cases hy with
   | cons _ _ _ _ hy hz =>
    cases hz
    cases int_inv hy
    have hmax : IntKind.i64.max = 9223372036854775807 := rfl
    split at h
    ·-- no byte
     split at h
     ·cases h
      cases nilp_inv hx
      refine ⟨.string .empty, w, ρ, ?_, hW, Stp.refl _ _ _ _, .str _ _ _ ⟨rfl, rfl⟩⟩
      rw [usr_none]; simp [asInt, asIntOf, hmax]
     ·cases h
      obtain ⟨L, hL, rfl⟩ := ptr_inv hx
      refine ⟨.string .empty, w, ρ, ?_, hW, Stp.refl _ _ _ _, .str _ _ _ ⟨rfl, rfl⟩⟩
      rw [usr_some]; simp [asInt, asIntOf, hmax]
     ·cases h
    ·rename_i n
     split at h
     ·rename_i b o hbig
      have hbig := Nat.le_of_ble_eq_true hbig
      obtain ⟨L, hL, rfl⟩ := ptr_inv hx
      unfold usrAt at h
      split at h
      ·rename_i cls st ro fz c hb
       split at h
       ·rename_i l hrow hcut
        have hrow : fz / 2 = 2 * e + 1 := Nat.eq_of_beq_eq_true hrow
        split at h
        ·rename_i s hs
         obtain ⟨C, t, fr, q1, q2⟩ := hW.blk b _ L hb hL
         obtain rfl := q2.tag.row e hrow
         obtain ⟨rfl, hlen⟩ := cut_some hcut
         have hvs := q2.slice (o := o) (n := n + 1) hlen
         have hroom := q2.room; have hfits := q2.fits
         obtain ⟨bs, hbs, rfl⟩ := bytesOf_sound _ _ s hs hvs
         have hbl : bs.length = n + 1 := by
          have := congrArg List.length hbs
          simp at this; omega
         have hcell : ∀ j x, bs[j]? = some x → w.cell? ((L.at o).add j) = some (.int .u8 x.toNat) := by
          intro j x hj
          have hjl : j < bs.length := (List.getElem?_eq_some_iff.1 hj).1
          rw [at_add, cell_of w q1]
          have : (bs.map (fun b => Value.int .u8 (b.toNat : Int)))[j]? = some (.int .u8 x.toNat) := by rw [List.getElem?_map, hj]; rfl
          rw [← hbs, List.getElem?_take, if_pos (by omega), List.getElem?_drop] at this
          rw [← Array.getElem?_toList, ← this]
          congr 1
          omega
         have hld := Lib.run_loadBytes (P := P) w bs (L.at o) .empty hcell
         rw [hbl] at hld
         have hlies := lies_row (P := P) hc (C.size / P.cellsOf t) (L.at o).off (n + 1) (by rw [hc]; simp only [Loc.at, Nat.div_one]; omega)
         have hsh : w.shape? (L.at o).block = some (t, C.size) := by simp only [World.shape?, Loc.at, q1]
         have hrun : (Builtin.unsafeString_ ⟨pt :: ts⟩ ty #[.pointer (some (L.at o)), .int k (Int.ofNat (n + 1))]).run P w = .ok (.string ⟨bs.toArray⟩) (w.freeze (L.at o) (n + 1)) := by
          have hneg : ¬ (Int.ofNat (n + 1)) < 0 := by have : (Int.ofNat (n + 1)) = ((n + 1 : Nat) : Int) := rfl; omega
          have h63 : ¬ (Int.ofNat (n + 1)) > 9223372036854775807 := by have : (Int.ofNat (n + 1)) = ((n + 1 : Nat) : Int) := rfl; omega
          have h0 : ¬ (Int.ofNat (n + 1)) = 0 := by have : (Int.ofNat (n + 1)) = ((n + 1 : Nat) : Int) := rfl; omega
          have ht : (Int.ofNat (n + 1)).toNat = n + 1 := rfl
          rw [usr_some]
          simp only [asInt, asIntOf, hmax]
          simp only [Sem.run_bind, Sem.run_pure, Result.andThen_ok, hneg, h63, h0, ht, if_false, variablesAt, run_shape, elemOf, run_underlying hp]
          simp [hsh, hlies, hld]
         have hvr : VR ρ (.str (n + 1) (packB bs)) (.string ⟨bs.toArray⟩) := .str _ _ _ ⟨by simpa [ByteArray.size] using hbl, by simp⟩
         have hfz : fz / 2 ≠ 0 := by omega
         split at h
         ·rename_i hc0
          obtain rfl := Nat.eq_of_beq_eq_true hc0
          cases h
          obtain ⟨p1, p2⟩ := hW.usr (m' := { m with bl := m.bl.set b (some (.cells 0 st true (2 * Nat.div fz 2) c)) }) (o := L.off + o) (n := n + 1) hb hL hfz rfl (by simp [T.get_set]; rfl) rfl (fun x B hx hB => by
           simp only [T.get_set, if_neg hx] at hB
           refine ⟨hB, fun K hK e => ?_⟩
           obtain ⟨cl, _, _, _, _, _, _, _, _, e1, e2, e3, _⟩ := hW.inj x b B _ K L hx hB hb hK hL e
           cases e2; exact e3 rfl) (fun x hx he => by
           have : x ≠ b := by intro e; subst e; rw [hL] at he; cases he
           simp [T.get_set, this])
          exact ⟨_, _, ρ, hrun, p1, p2, hvr⟩
         ·rename_i hc0
          have hcls : cls ≠ 0 := by intro e; subst e; rw [Nat.beq_refl] at hc0; cases hc0
          obtain ⟨ids, hi, hm⟩ := hW.cls b cls _ _ _ _ hb hcls
          rw [hi] at h
          cases h
          obtain ⟨p1, p2⟩ := hW.usr (m' := { m with bl := (dropO b (onO (some ids) id []) m.bl).set b (some (.cells cls st true (2 * Nat.div fz 2) c)) }) (o := L.off + o) (n := n + 1) hb hL hfz rfl (by simp [T.get_set]; rfl) rfl (fun x B hx hB => by
           simp only [T.get_set, if_neg hx] at hB
           rw [dropO_get] at hB
           split at hB
           ·cases hB
           ·rename_i hni
            refine ⟨hB, fun K hK e => ?_⟩
            obtain ⟨cl, _, _, _, _, _, _, _, _, e1, e2, e3, _⟩ := hW.inj x b B _ K L hx hB hb hK hL e
            cases e2
            subst e1
            obtain ⟨ids', hi', hm'⟩ := hW.cls x _ _ _ _ _ hB e3
            rw [hi] at hi'; cases hi'
            exact hni ⟨hx, hm'⟩) (fun x hx he => by
           have hxb : x ≠ b := by intro e; subst e; rw [hL] at he; cases he
           simp only [T.get_set, if_neg hxb]
           rw [dropO_get, if_neg]
           rintro ⟨_, hx'⟩
           exact hW.cld cls ids x hi hx' he)
          exact ⟨_, _, ρ, hrun, p1, p2, hvr⟩
        ·cases h
       ·cases h
      ·cases h
     ·cases h
 ·cases h
end Go.Vm

namespace Go.Vm
open Go Go.RowKit
variable {P : Program} {ρ ρ' : Rho} {H0 : Nat} {m m' : Mem} {w w' : World}
inductive SrcOk (P : Program) (el sz : Nat) (zv : Value) : TypeDesc → Value → Nat → List Value → Array World → Prop where
 | zeros (k kx : IntKind) (n : Nat) (ws) (h1 : n ≤ 16777216) (h2 : ∀ i, P.info? el = some i → n * i.bytes ≤ 16777216) : SrcOk P el sz zv (.int k) (.int kx n) n (if n * sz = 0 then [] else (Builtin.zeroCells zv.cells n).toList) ws
 | cells (d : TypeDesc) (hd : ∀ k, d ≠ .int k) (x : Value) (n : Nat) (vs : List Value) (ws) (h : ∀ w ∈ ws, (Builtin.lenOf x).run P w = .ok n w ∧ (Builtin.firstCells sz n x).run P w = .ok ⟨vs⟩ w) : SrcOk P el sz zv d x n vs ws
theorem growBy_le (n : Nat) : ∀ (r c : Nat), Builtin.growBy n r c + 768 ≤ 2 ^ r * (c + 768)
 | 0, c => by simp [Builtin.growBy]
 | r + 1, c => by
  unfold Builtin.growBy
  split
  ·have : 1 ≤ 2 ^ (r + 1) := Nat.one_le_two_pow
   exact Nat.le_mul_of_pos_left _ this
  ·have := growBy_le n r (c + (c + 768) / 4)
   refine Nat.le_trans this ?_
   rw [Nat.pow_succ, Nat.mul_assoc]
   apply Nat.mul_le_mul_left
   omega
theorem nextcap_le {need old : Nat} (h : old < need) : Builtin.nextslicecap need old ≤ 16 * (need + 768) := by
 unfold Builtin.nextslicecap
 split
 ·omega
 ·split
  ·omega
  ·have := growBy_le need 4 old
   omega
theorem wrap_small {n : Nat} (h : n ≤ 1073741824) : IntKind.i64.wrap (n : Int) = n := by rw [IntKind.wrap_i64]; omega
theorem run_app_in {t u el sz ty : Nat} {ts : List TypeId} {d : TypeDesc} {zv x : Value} {n : Nat} {vs : List Value} {base : Option Addr} {len cap : Nat} (ht : P.underlying t = some (.slice el)) (hs : szOf P el = some sz) (hz : zeroV P el = some zv) (hu : P.underlying u = some d)
 (hsrc : SrcOk P el sz zv d x n vs #[w]) (hfit : len + n ≤ cap) :
 (Builtin.append_ ⟨t :: u :: ts⟩ ty #[.slice base len cap, x]).run P w = (match base with
  | some a => (storeCells (a.add (len * sz)) vs).run P w
  | none => .ok () w).andThen fun _ w' => .ok (.slice base (len + n) cap) w' := by
 obtain ⟨i, hi, _⟩ := szOf_some hs
 cases hsrc with
 | zeros k kx n ws h1 h2 =>
  have hwn := wrap_small (n := n) (by omega)
  have hb : ¬ ((n : Int) * (i.bytes : Int) > 2 ^ 48) := by
   have := h2 i hi
   have : ((n * i.bytes : Nat) : Int) ≤ 16777216 := by omega
   rw [Int.natCast_mul] at this
   omega
  have hn0 : ¬ ((n : Int) < 0) := by omega
  unfold Builtin.append_
  simp only [List.getElem?_toArray, List.getElem?_cons_zero, List.getElem?_cons_succ, Sem.run_bind, run_underlying ht, run_underlying hu, Result.andThen_ok, r_size w hs, Sem.run_pure, asInt, asIntOf, hwn, if_true, if_neg hn0, r_info w hi, if_neg hb, Int.toNat_natCast, if_pos hfit]
  by_cases h0 : n * sz = 0
  ·cases base <;> simp [h0]
  ·cases base <;> simp [h0, r_zero w hz]
 | cells d hd x n vs ws h =>
  obtain ⟨h1, h2⟩ := h w (by simp)
  have hd' : (match d with | .int _ => true | _ => false) = false := by cases d <;> first | rfl | exact absurd rfl (hd _)
  unfold Builtin.append_
  simp only [List.getElem?_toArray, List.getElem?_cons_zero, List.getElem?_cons_succ, Sem.run_bind, run_underlying ht, run_underlying hu, Result.andThen_ok, r_size w hs, Sem.run_pure, if_false, Bool.false_eq_true, h1, if_pos hfit, Bool.not_false, if_true, h2]
  cases base <;> simp
theorem run_app_grow {t u el sz by_ ty : Nat} {ts : List TypeId} {d : TypeDesc} {zv x : Value} {n : Nat} {vs old : List Value} {base : Option Addr} {len cap : Nat} (ht : P.underlying t = some (.slice el)) (hs : szOf P el = some sz) (hby : byOf P el = some by_) (hz : zeroV P el = some zv)
 (hu : P.underlying u = some d) (hsrc : SrcOk P el sz zv d x n vs #[w, w.drew]) (hold : (Builtin.firstCells sz len (.slice base len cap)).run P w.drew = .ok ⟨old⟩ w.drew) (hfit : ¬ len + n ≤ cap) (hb1 : len + n ≤ 1073741824) (hb2 : (len + n) * by_ ≤ 1073741824) :
 ∃ newCap, len + n ≤ newCap ∧ (Builtin.append_ ⟨t :: u :: ts⟩ ty #[.slice base len cap, x]).run P w =
  .ok (.slice (some ⟨w.heap.size, 0, none⟩) (len + n) newCap) (w.drew.alloc (.cells (⟨old⟩ ++ ⟨vs⟩ ++ Builtin.zeroCells zv.cells (newCap - (len + n))) el)) := by
 obtain ⟨i, hi, _⟩ := szOf_some hs
 obtain ⟨i', hi', hib⟩ := byOf_some hby
 rw [hi] at hi'; cases hi'
 refine ⟨(Question.appendCap (len + n) cap el).cut (w.tape w.drawn (Question.appendCap (len + n) cap el)), by simp only [Question.cut]; omega, ?_⟩
 generalize hnc : (Question.appendCap (len + n) cap el).cut (w.tape w.drawn (Question.appendCap (len + n) cap el)) = nc
 have hmax : ¬ (((len + n : Nat) : Int) > IntKind.i64.max) := by
  have : IntKind.i64.max = 9223372036854775807 := by decide
  rw [this]; omega
 have hcap : ¬ (Builtin.nextslicecap (len + n) cap * i.bytes > 2 ^ 48) := by
  have h1 := nextcap_le (need := len + n) (old := cap) (by omega)
  have h2 : Builtin.nextslicecap (len + n) cap * i.bytes ≤ 16 * ((len + n) + 768) * i.bytes := Nat.mul_le_mul_right _ h1
  have h3 : i.bytes ≤ (len + n) * i.bytes := Nat.le_mul_of_pos_left _ (by omega)
  have h4 : 16 * ((len + n) + 768) * i.bytes = 16 * ((len + n) * i.bytes) + 12288 * i.bytes := by
   rw [Nat.mul_add, Nat.add_mul, Nat.mul_assoc]
  rw [hib] at *
  omega
 cases hsrc with
 | zeros k kx n ws h1 h2 =>
  have hwn := wrap_small (n := n) (by omega)
  have hb : ¬ ((n : Int) * (i.bytes : Int) > 2 ^ 48) := by
   have := h2 i hi
   have : ((n * i.bytes : Nat) : Int) ≤ 16777216 := by omega
   rw [Int.natCast_mul] at this
   omega
  have hn0 : ¬ ((n : Int) < 0) := by omega
  unfold Builtin.append_
  simp only [List.getElem?_toArray, List.getElem?_cons_zero, List.getElem?_cons_succ, Sem.run_bind, run_underlying ht, run_underlying hu, Result.andThen_ok, r_size w hs, Sem.run_pure, asInt, asIntOf, hwn, if_true, if_neg hn0, r_info w hi, if_neg hb, Int.toNat_natCast, if_neg hfit]
  rw [if_neg (fun h => hmax h.1)]
  simp only [Sem.run_bind, r_info w hi, Result.andThen_ok, if_neg hcap, run_choose_drew, Question.forced, Bool.false_eq_true, if_false, hnc, run_askRoom]
  by_cases h0 : n * sz = 0
  ·simp [h0, r_info w.drew hi, hold, r_zero w.drew hz, newRow]
  ·simp [h0, r_info w.drew hi, hold, r_zero w.drew hz, newRow]
 | cells d hd x n vs ws h =>
  obtain ⟨h1, h2⟩ := h w (by simp)
  obtain ⟨h1', h2'⟩ := h w.drew (by simp)
  have hd' : (match d with | .int _ => true | _ => false) = false := by cases d <;> first | rfl | exact absurd rfl (hd _)
  unfold Builtin.append_
  simp only [List.getElem?_toArray, List.getElem?_cons_zero, List.getElem?_cons_succ, Sem.run_bind, run_underlying ht, run_underlying hu, Result.andThen_ok, r_size w hs, Sem.run_pure, if_false, Bool.false_eq_true, h1, if_neg hfit, Bool.not_false, if_true, r_info w hi]
  rw [if_neg (fun h => hmax h.1)]
  simp only [Sem.run_bind, r_info w hi, Result.andThen_ok, if_neg hcap, run_choose_drew, Question.forced, Bool.false_eq_true, if_false, hnc, run_askRoom]
  simp [r_info w.drew hi, hold, h2', r_zero w.drew hz, newRow]
  congr 2
  apply Array.ext'
  simp
end Go.Vm

namespace Go.Vm
open Go Go.RowKit
variable {P : Program} {ρ ρ' : Rho} {H0 : Nat} {m m' : Mem} {w w' : World}
theorem SrcOk.sub {el sz : Nat} {zv x : Value} {d : TypeDesc} {n : Nat} {vs : List Value} {ws ws' : Array World} (h : SrcOk P el sz zv d x n vs ws) (hs : ∀ w ∈ ws', w ∈ ws) : SrcOk P el sz zv d x n vs ws' := by
 cases h with
 | zeros k kx n _ h1 h2 => exact .zeros k kx n _ h1 h2
 | cells d hd x n vs _ h => exact .cells d hd x n vs _ fun w hw => h w (hs w hw)
theorem zeroCells_size (z : Array Value) (n : Nat) : (Builtin.zeroCells z n).size = n * z.size := by simp [Builtin.zeroCells]
theorem nx_none (h : WR ρ H0 m w) : ρ m.nx = none := by
 cases e : ρ m.nx with
 | none => rfl
 | some L => exact absurd (h.dom _ _ e).2 (Nat.lt_irrefl _)
theorem grown_row {sz len n nc : Nat} {zv : Value} {olda l : List AV} {old vs : List Value} (hzs : zv.cells.size = sz) (ho : VRs ρ olda old) (hv : VRs ρ l vs) (h1 : olda.length = len * sz) (h2 : l.length = n * sz) (hnc : len + n ≤ nc) :
 VRs ρ (olda ++ l) (((⟨old⟩ : Array Value) ++ ⟨vs⟩ ++ Builtin.zeroCells zv.cells (nc - (len + n))).toList.take (olda ++ l).length) ∧
 ((⟨old⟩ : Array Value) ++ ⟨vs⟩ ++ Builtin.zeroCells zv.cells (nc - (len + n))).size = nc * sz := by
 have e1 := ho.length; have e2 := hv.length
 constructor
 ·have : (((⟨old⟩ : Array Value) ++ ⟨vs⟩ ++ Builtin.zeroCells zv.cells (nc - (len + n))).toList.take (olda ++ l).length) = old ++ vs := by
   simp only [Array.toList_append]
   rw [List.take_append_of_le_length (by simp; omega), List.take_of_length_le (by simp; omega)]
  rw [this]
  exact ho.append hv
 ·rw [Array.size_append, Array.size_append, zeroCells_size, hzs]
  show old.length + vs.length + _ = _
  rw [← e1, ← e2, h1, h2, ← Nat.add_mul, ← Nat.add_mul]
  congr 1; omega
theorem acts_grow {el sz len n nc : Nat} {zv : Value} {olda l : List AV} {old vs : List Value} (hW : WR ρ H0 m w) (hzs : zv.cells.size = sz) (ho : VRs ρ olda old) (hv : VRs ρ l vs) (h1 : olda.length = len * sz) (h2 : l.length = n * sz) (hnc : len + n ≤ nc) :
 let cs : Array Value := (⟨old⟩ : Array Value) ++ ⟨vs⟩ ++ Builtin.zeroCells zv.cells (nc - (len + n))
 let L : Loc := ⟨w.heap.size, 0, cs.size⟩
 WR (ρ.put m.nx L) H0 (newB m (rowOf el (olda ++ l))) (w.drew.alloc (.cells cs el)) ∧ Stp H0 ρ m w (ρ.put m.nx L) (newB m (rowOf el (olda ++ l))) (w.drew.alloc (.cells cs el)) ∧
  VR (ρ.put m.nx L) (.slice m.nx 0 sz (len + n) (len + n) false) (.slice (some ⟨w.heap.size, 0, none⟩) (len + n) nc) := by
 intro cs L
 obtain ⟨g1, g2⟩ := grown_row (nc := nc) hzs ho hv h1 h2 hnc
 have hnx := nx_none hW
 have hWd : WR ρ H0 m w.drew := hW.heap rfl
 have hW1 := hWd.newB (plain_row el (olda ++ l))
 have hg : (newB m (rowOf el (olda ++ l))).bl.get m.nx = some (rowOf el (olda ++ l)) := by simp [newB, T.get_set]
 have hlen : (olda ++ l).length ≤ cs.size := by
  show _ ≤ ((⟨old⟩ : Array Value) ++ ⟨vs⟩ ++ Builtin.zeroCells zv.cells (nc - (len + n))).size
  rw [g2, List.length_append, h1, h2, ← Nat.add_mul]
  exact Nat.mul_le_mul_right _ hnc
 have hblk : BlkR (ρ.put m.nx L) (rowOf el (olda ++ l)) L (w.drew.alloc (.cells cs el)) :=
  rowOf_blk (alloc_get w.drew _) rfl (Nat.le_refl _) (g1.mono (ρ.le_put _ hnx)) hlen
 have hW2 := WR.alloc hW1 (room := cs.size) (O := .cells cs el) hg hnx (plain_row _ _) hblk
 refine ⟨hW2, ⟨ρ.le_put _ hnx, Nat.le_succ _, ?_, (Below.refl H0 w).drew.trans (below_alloc hWd _)⟩, ?_⟩
 ·intro x hx he
  have : x ≠ m.nx := by omega
  exact ⟨by rw [ρ.put_ne _ this]; exact he, by simp [newB, T.get_set, this]⟩
 ·exact .slice m.nx 0 sz (len + n) (len + n) false L _ nc (ρ.put_at _ _) (Nat.le_refl _) hnc (by intro h; cases h) (.inr ⟨rfl, by show 0 + nc * sz ≤ cs.size; rw [Nat.zero_add]; exact Nat.le_of_eq g2.symm⟩)
end Go.Vm

namespace Go.Vm
open Go Go.RowKit
variable {P : Program} {ρ ρ' : Rho} {H0 : Nat} {m m' : Mem} {w w' : World}
theorem WR.grow (h : WR ρ H0 m w) (O : Obj) : WR ρ H0 m (w.alloc O) :=
 ⟨fun b B L h1 h2 => (h.blk b B L h1 h2).same (alloc_old w O _ (h.dom b L h2).1), fun b L h1 => ⟨by rw [alloc_size]; exact Nat.lt_succ_of_lt (h.dom b L h1).1, (h.dom b L h1).2⟩, h.live, h.inj, h.cls, h.cld, h.low, by rw [alloc_size]; have := h.le; omega⟩
structure MayStay (m m' : Mem) (b o sz len k : Nat) (l : List AV) (cls st : Nat) (fz : Nat) (c old : List AV) (el fz' : Nat) : Prop where
 hb : ∃ cls0, m.bl.get b = some (.cells cls0 st false fz c) ∧ (cls0 = cls ∨ (cls0 = 0 ∧ m.cl.get cls = none))
 ne : cls ≠ 0
 hold : old = (c.drop o).take (len * sz)
 hlen : o + len * sz ≤ c.length
 hf : ((fz' / 2 = fz / 2 ∧ fz / 2 = 2 * el + 1) ∨ fz' / 2 = 0) ∧ fz' % 2 = fz % 2
 nx : m'.nx = m.nx + 1
 new : ∃ (mem : List Nat) (bl bl' : T ABlk) (keep : List Nat), (∀ x, bl.get x = if x = b then some (.cells cls st false fz c) else m.bl.get x) ∧ (m.cl.get cls = some mem ∨ (m.cl.get cls = none ∧ mem = [b])) ∧
  kill m.nx (st + o + len * sz) (st + o + (len + k) * sz) mem bl = (bl', keep) ∧ (∀ x, m'.bl.get x = if x = m.nx then some (.cells cls (st + o) false fz' (old ++ l)) else bl'.get x) ∧ ∀ j, m'.cl.get j = if j = cls then some (m.nx :: keep) else m.cl.get j
theorem stay_sound (hW : WR ρ H0 m w) {b o sz len k cls st el fz' : Nat} {fz : Nat} {l c old : List AV} {L : Loc} (hs : MayStay m m' b o sz len k l cls st fz c old el fz') (hL : ρ b = some L) {vs : List Value} (_ : VRs ρ l vs) (_ : l.length = k * sz) (_ : allOne l = true) :
 ∃ m2 : Mem, m2.nx = m.nx ∧ (∀ x B, m2.bl.get x = some B → x ≠ m.nx) ∧
  (∀ x, x < m.nx → ρ x = none → m2.bl.get x = m.bl.get x) ∧
  (∃ keep, m2.cl.get cls = some keep ∧ (∀ j, m'.cl.get j = if j = cls then some (m.nx :: keep) else m2.cl.get j)) ∧
  (∀ x, m'.bl.get x = if x = m.nx then some (.cells cls (st + o) false fz' (old ++ l)) else m2.bl.get x) ∧
  WR ρ H0 m2 w ∧
  (∀ x C K, m2.bl.get x = some C → ρ x = some K → K.blk = L.blk → ∃ s ro f d, C = .cells cls s ro f d ∧ K.off + st = L.off + s ∧ (s + d.length ≤ st + o + len * sz ∨ st + o + (len + k) * sz ≤ s)) := by
 obtain ⟨cls0, hb, hcls⟩ := hs.hb
 obtain ⟨mem, bl, bl', keep, hbl, hmem, hk, hbl', hcl'⟩ := hs.new
 let m1 : Mem := { m with bl := bl, cl := m.cl.set cls (some mem) }
 have hcl1 : ∀ j, m1.cl.get j = if j = cls then some mem else m.cl.get j := fun j => by simp [m1, T.get_set]
 have hW1 : WR ρ H0 m1 w := by
  rcases hcls with rfl | ⟨rfl, hnone⟩
  ·have hmem' : m.cl.get cls0 = some mem := by
    rcases hmem with h | ⟨h, _⟩
    ·exact h
    ·obtain ⟨ids, hi, _⟩ := hW.cls b cls0 st false fz c hb hs.ne
     rw [h] at hi; cases hi
   refine hW.ext rfl (fun x => ?_) (fun j => ?_)
   ·show bl.get x = _
    rw [hbl]
    split
    ·rename_i e; subst e; exact hb.symm
    ·rfl
   ·rw [hcl1]
    split
    ·rename_i e; subst e; exact hmem'.symm
    ·rfl
  ·have hmem' : mem = [b] := by
    rcases hmem with h | ⟨_, h⟩
    ·rw [hnone] at h; cases h
    ·exact h
   subst hmem'
   exact hW.class hb hL hs.ne hnone rfl hbl hcl1
 have hb1 : m1.bl.get b = some (.cells cls st false fz c) := by show bl.get b = _; rw [hbl, if_pos rfl]
 obtain ⟨k1, k2, k3, k4⟩ := kill_spec _ _ _ _ hk
 have hnx := nx_none hW
 let m2 : Mem := { m1 with bl := bl', cl := m1.cl.set cls (some keep) }
 have hcl2 : ∀ j, m2.cl.get j = if j = cls then some keep else m.cl.get j := fun j => by
  show (T.set (T.set m.cl cls (some mem)) cls (some keep)).get j = _
  rw [T.get_set]
  split
  ·rfl
  ·rename_i e; rw [T.get_set, if_neg e]
 have hsub : ∀ x B, m2.bl.get x = some B → m1.bl.get x = some B := by
  intro x B hB
  rcases k1 x with e | ⟨_, _, e⟩
  ·have hB' : bl'.get x = some B := hB
   rw [e] at hB'; exact hB'
  ·have hB' : bl'.get x = some B := hB
   rw [e] at hB'; cases hB'
 have hxn : ∀ x B, m2.bl.get x = some B → x ≠ m.nx := by
  intro x B hB e
  have := hW1.live x B (hsub x B hB)
  have e2 : m1.nx = m.nx := rfl
  omega
 have hcls2 : ∀ x j s ro f d, m2.bl.get x = some (.cells j s ro f d) → j ≠ 0 → ∃ ids', m2.cl.get j = some ids' ∧ x ∈ ids' := by
  intro x j s ro f d hB hj
  obtain ⟨ids, hi, hx⟩ := hW1.cls x j s ro f d (hsub x _ hB) hj
  rw [hcl1] at hi
  rw [hcl2]
  split at hi
  ·rename_i e
   cases hi
   rw [if_pos e]
   exact ⟨keep, rfl, (k4 x hx (hxn x _ hB) _ _ _ _ _ hB).1⟩
  ·rename_i e
   rw [if_neg e]
   exact ⟨ids, hi, hx⟩
 have hW2 : WR ρ H0 m2 w := hW1.less rfl hsub (fun j ids' hi => by
  rw [hcl2] at hi
  rw [hcl1]
  split at hi
  ·rename_i e
   cases hi
   rw [if_pos e]
   exact ⟨mem, rfl, k2⟩
  ·rename_i e
   rw [if_neg e]
   exact ⟨ids', hi, fun x hx => hx⟩) hcls2 rfl (fun x B K hB hK => hW1.blk x B K (hsub x B hB) hK)
 refine ⟨m2, rfl, hxn, ?_, ⟨keep, by rw [hcl2, if_pos rfl], fun j => by
  rw [hcl', hcl2]
  split <;> rfl⟩, hbl', hW2, ?_⟩
 ·intro x hx he
  have hxb : x ≠ b := by intro e; subst e; rw [hL] at he; cases he
  show bl'.get x = _
  rcases k1 x with e | ⟨hm, _, e⟩
  ·rw [e, hbl, if_neg hxb]
  ·exact absurd he (hW1.cld cls mem x (by rw [hcl1, if_pos rfl]) hm)
 ·intro x C K hC hK he
  have hC1 := hsub x C hC
  have hx : ∃ s ro f d, C = .cells cls s ro f d ∧ K.off + st = L.off + s := by
   by_cases hxb : x = b
   ·subst hxb; rw [hb1] at hC1; cases hC1; rw [hL] at hK; cases hK; exact ⟨_, _, _, _, rfl, rfl⟩
   ·obtain ⟨j, s, ro, f, d, s', ro', f', d', e1, e2, e3, e4⟩ := hW1.inj x b C _ K L hxb hC1 hb1 hK hL he
    cases e2
    exact ⟨s, ro, f, d, e1, e4⟩
  obtain ⟨s, ro, f, d, rfl, hal⟩ := hx
  refine ⟨s, ro, f, d, rfl, hal, ?_⟩
  obtain ⟨ids, hi, hx⟩ := hW1.cls x cls s ro f d hC1 hs.ne
  rw [hcl1, if_pos rfl] at hi
  cases hi
  exact (k4 x hx (hxn x _ hC) _ _ _ _ _ hC).2
end Go.Vm

namespace Go.Vm
open Go Go.RowKit
variable {P : Program} {ρ ρ' : Rho} {H0 : Nat} {m m' : Mem} {w w' : World}
theorem grownF_ok (el fz : Nat) : ((grownF el fz / 2 = fz / 2 ∧ fz / 2 = 2 * el + 1) ∨ grownF el fz / 2 = 0) ∧ grownF el fz % 2 = fz % 2 := by
 unfold grownF
 split
 ·rename_i h
  exact ⟨.inl ⟨rfl, Nat.eq_of_beq_eq_true h⟩, rfl⟩
 ·exact ⟨.inr (by show fz % 2 / 2 = 0; omega), by show fz % 2 % 2 = fz % 2; omega⟩
theorem stay_in (hW : WR ρ H0 m w) {el b o sz len k cap cls st fz' : Nat} {fz : Nat} {l c old : List AV} {L : Loc} (hs : MayStay m m' b o sz len k l cls st fz c old el fz') (hL : ρ b = some L) {vs : List Value} (hv : VRs ρ l vs) (hl : l.length = k * sz) (h1 : allOne l = true)
 (hk : len + k ≤ cap) (hcap : o + cap * sz ≤ L.room) :
 ∃ w' ρ', (storeCells (L.at (o + len * sz)) vs).run P w = .ok () w' ∧ WR ρ' H0 m' w' ∧ Stp H0 ρ m w ρ' m' w' ∧ VR ρ' (.slice m.nx 0 sz (len + k) (len + k) false) (.slice (some (L.at o)) (len + k) cap) := by
 obtain ⟨m2, hnx2, hxn, hph, ⟨keep, hcl2, hcl'⟩, hbl', hW2, hdis⟩ := stay_sound hW hs hL hv hl h1
 obtain ⟨cls0, hb, hcls⟩ := hs.hb
 obtain ⟨C, t, fr, q1, q2⟩ := hW.blk b _ L hb hL
 have hroom := q2.room; have hfits := q2.fits
 have hlen := hv.length
 have hmul : (len + k) * sz ≤ cap * sz := Nat.mul_le_mul_right _ hk
 have hadd : (len + k) * sz = len * sz + k * sz := Nat.add_mul _ _ _
 have hL0 : H0 ≤ L.blk := by
  rcases Nat.lt_or_ge L.blk H0 with hlt | hge
  ·obtain ⟨_, _, _, e⟩ := hW.low b _ L hb hL hlt
   cases e
  ·exact hge
 have hcell : ∀ j, j < vs.length → (w.cell? ⟨L.blk, L.off + (o + len * sz) + 0 + j, none⟩).isSome = true := by
  intro j hj
  simp only [World.cell?, q1]
  simp
  omega
 have hfroz : ∀ j, j < vs.length → w.frozen? ⟨L.blk, L.off + (o + len * sz) + 0 + j, none⟩ = false := by
  intro j hj
  have := q2.free rfl (o + len * sz + j) (by omega)
  simp only [World.frozen?, q1]
  rw [← Nat.add_assoc] at this
  simp only [Nat.add_zero]
  rw [Bool.eq_false_iff]
  simpa using this
 have hrun := run_storeCells_cells (P := P) L.blk (L.off + (o + len * sz)) vs 0 w hcell hfroz (hv.allOne h1)
 obtain ⟨C', p1, p2, p3, p4⟩ := setCells_heap L.blk vs (L.off + (o + len * sz)) w C t fr q1 (by omega)
 have hoth := setCells_other L.blk vs (L.off + (o + len * sz)) w
 have hsz := setCells_size L.blk vs (L.off + (o + len * sz)) w
 have hbelow := setCells_below (B := H0) hL0 vs (L.off + (o + len * sz)) w
 generalize hw' : w.setCells L.blk (L.off + (o + len * sz)) vs = w' at hrun p1 hoth hsz hbelow
 have hW3 : WR ρ H0 m2 w' := hW2.less rfl (fun _ _ h => h) (fun j ids h => ⟨ids, h, fun _ h => h⟩) (fun x j s ro f d h => hW2.cls x j s ro f d h) hsz (fun x B K hB hK => by
  by_cases he : K.blk = L.blk
  ·obtain ⟨s, ro, f, d, rfl, hal, hd⟩ := hdis x B K hB hK he
   obtain ⟨C2, t2, fr2, r1, r2⟩ := hW2.blk x _ K hB hK
   rw [he, q1] at r1
   cases r1
   refine ⟨C', t, fr, by rw [he]; exact p1, r2.kept p2 ?_⟩
   intro i hi
   apply p4
   omega
  ·exact (hW2.blk x B K hB hK).same (hoth _ he))
 have hnx := nx_none hW
 let L' : Loc := ⟨L.blk, L.off + o, L.room - o⟩
 have hle := ρ.le_put L' hnx
 have holdlen : old.length = len * sz := by rw [hs.hold]; simp; have := hs.hlen; omega
 have hblk : BlkR (ρ.put m.nx L') (.cells cls (st + o) false fz' (old ++ l)) L' w' := by
  refine ⟨C', t, fr, p1, ⟨by show L.off + o + (L.room - o) ≤ C'.size; omega, by show (old ++ l).length ≤ L.room - o; rw [List.length_append]; omega, ?_, ?_, fun e => q2.clean (hs.hf.2 ▸ e), ?_⟩⟩
  ·intro i a hi
   by_cases hio : i < len * sz
   ·rw [List.getElem?_append_left (by omega), hs.hold, List.getElem?_take, if_pos hio, List.getElem?_drop] at hi
    obtain ⟨v, hv', hr⟩ := q2.cell _ a hi
    refine ⟨v, ?_, hr.mono hle⟩
    rw [p4 _ (.inl (by show L.off + o + i < _; omega))]
    rw [← hv']
    show C[L.off + o + i]? = _
    congr 1; omega
   ·have hil := (List.getElem?_eq_some_iff.1 hi).1
    rw [List.length_append] at hil
    rw [List.getElem?_append_right (by omega), holdlen] at hi
    obtain ⟨v, hv', hr⟩ := hv.get hi
    refine ⟨v, ?_, hr.mono hle⟩
    have := p3 (i - len * sz) (by omega)
    rw [hv'] at this
    rw [← this]
    show C'[L.off + o + i]? = _
    congr 1; omega
  ·intro _ i hi
   have := q2.free rfl (o + i) (by show o + i < L.room; have : i < L.room - o := hi; omega)
   show ¬ (fr.1 ≤ L.off + o + i ∧ L.off + o + i < fr.2)
   rwa [Nat.add_assoc]
  ·rcases hs.hf.1 with ⟨e1, e2⟩ | e1
   ·exact ⟨fun s e => q2.tag.row s (by omega), fun s e => by omega⟩
   ·exact TagR.none e1
 obtain ⟨_, hW4⟩ := hW3.add (m' := m') (L := L') hcl2 (by rw [hsz]; exact (hW.dom b L hL).1) hL0 (by rw [hnx2]; exact hblk) (fun x D K hD hK he => by
  obtain ⟨s, ro, f, d, rfl, hal, _⟩ := hdis x D K hD hK he
  exact ⟨cls, s, ro, f, d, _, _, _, _, rfl, rfl, hs.ne, by show K.off + (st + o) = L.off + o + s; omega⟩) (by rw [hs.nx, hnx2]) (by rw [hnx2]; exact hbl') (by rw [hnx2]; exact hcl')
 rw [hnx2] at hW4
 refine ⟨w', ρ.put m.nx L', by simpa [Loc.at, Nat.add_assoc, hw'] using hrun, hW4, ⟨hle, by rw [hs.nx]; exact Nat.le_succ _, ?_, hbelow⟩, ?_⟩
 ·intro x hx he
  have hxn' : x ≠ m.nx := by omega
  exact ⟨by rw [ρ.put_ne _ hxn']; exact he, by rw [hbl', if_neg hxn']; exact hph x hx he⟩
 ·exact .slice m.nx 0 sz (len + k) (len + k) false L' _ cap (ρ.put_at _ _) (Nat.le_refl _) hk (by intro h; cases h) (.inr ⟨rfl, by show 0 + cap * sz ≤ L.room - o; omega⟩)
theorem stay_out (hW : WR ρ H0 m w) {el b o sz len k nc cls st fz' : Nat} {fz : Nat} {l c old : List AV} {L : Loc} {zv : Value} (hs : MayStay m m' b o sz len k l cls st fz c old el fz') (hL : ρ b = some L) {vs oldv : List Value} (hzs : zv.cells.size = sz) (ho : VRs ρ old oldv) (hv : VRs ρ l vs) (hl : l.length = k * sz) (h1 : allOne l = true)
 (hnc : len + k ≤ nc) :
 let cs : Array Value := (⟨oldv⟩ : Array Value) ++ ⟨vs⟩ ++ Builtin.zeroCells zv.cells (nc - (len + k))
 ∃ ρ', WR ρ' H0 m' (w.drew.alloc (.cells cs el)) ∧ Stp H0 ρ m w ρ' m' (w.drew.alloc (.cells cs el)) ∧ VR ρ' (.slice m.nx 0 sz (len + k) (len + k) false) (.slice (some ⟨w.heap.size, 0, none⟩) (len + k) nc) := by
 intro cs
 obtain ⟨m2, hnx2, hxn, hph, ⟨keep, hcl2, hcl'⟩, hbl', hW2, hdis⟩ := stay_sound hW hs hL hv hl h1
 have holdlen : old.length = len * sz := by rw [hs.hold]; simp; have := hs.hlen; omega
 obtain ⟨g1, g2⟩ := grown_row (nc := nc) hzs ho hv holdlen hl hnc
 have hWd : WR ρ H0 m2 w.drew := hW2.heap rfl
 have hW3 := hWd.grow (.cells cs el)
 have hnx := nx_none hW
 let L' : Loc := ⟨w.heap.size, 0, cs.size⟩
 have hle := ρ.le_put L' hnx
 have hlen : (old ++ l).length ≤ cs.size := by
  show _ ≤ ((⟨oldv⟩ : Array Value) ++ ⟨vs⟩ ++ Builtin.zeroCells zv.cells (nc - (len + k))).size
  rw [g2, List.length_append, holdlen, hl, ← Nat.add_mul]
  exact Nat.mul_le_mul_right _ hnc
 have hrow : BlkR (ρ.put m.nx L') (rowOf el (old ++ l)) L' (w.drew.alloc (.cells cs el)) :=
  rowOf_blk (alloc_get w.drew _) rfl (Nat.le_refl _) (g1.mono hle) hlen
 have hblk : BlkR (ρ.put m.nx L') (.cells cls (st + o) false fz' (old ++ l)) L' (w.drew.alloc (.cells cs el)) := by
  obtain ⟨C, t, fr, r1, r2⟩ := hrow
  refine ⟨C, t, fr, r1, ⟨r2.room, r2.fits, r2.cell, r2.free, fun _ => r2.clean (by omega), ?_⟩⟩
  rcases hs.hf.1 with ⟨e1, e2⟩ | e1
  ·exact ⟨fun s e => r2.tag.row s (by omega), fun s e => by omega⟩
  ·exact TagR.none e1
 obtain ⟨_, hW4⟩ := hW3.add (m' := m') (L := L') hcl2 (by rw [alloc_size]; exact Nat.lt_succ_self _) hW.le (by rw [hnx2]; exact hblk) (fun x D K hD hK he => by
  have := (hWd.dom x K hK).1
  have e2 : K.blk = w.heap.size := he
  have e3 : w.drew.heap.size = w.heap.size := rfl
  omega) (by rw [hs.nx, hnx2]) (by rw [hnx2]; exact hbl') (by rw [hnx2]; exact hcl')
 rw [hnx2] at hW4
 refine ⟨ρ.put m.nx L', hW4, ⟨hle, by rw [hs.nx]; exact Nat.le_succ _, ?_, (Below.refl H0 w).drew.trans (below_alloc hWd _)⟩, ?_⟩
 ·intro x hx he
  have hxn' : x ≠ m.nx := by omega
  exact ⟨by rw [ρ.put_ne _ hxn']; exact he, by rw [hbl', if_neg hxn']; exact hph x hx he⟩
 ·exact .slice m.nx 0 sz (len + k) (len + k) false L' _ nc (ρ.put_at _ _) (Nat.le_refl _) hnc (by intro h; cases h) (.inr ⟨rfl, by show 0 + nc * sz ≤ cs.size; rw [Nat.zero_add]; exact Nat.le_of_eq g2.symm⟩)
end Go.Vm

namespace Go.Vm
open Go Go.RowKit
variable {P : Program} {ρ ρ' : Rho} {H0 : Nat} {m m' : Mem} {w w' : World}
theorem old_cells (hW : WR ρ H0 m w) {b o sz len lb cap cls st : Nat} {ro : Bool} {fz : Nat} {c old : List AV} {L : Loc} {ad : Addr} (hb : m.bl.get b = some (.cells cls st ro fz c)) (hL : ρ b = some L) (h1 : len ≤ lb) (h2 : lb ≤ cap)
 (h4 : cap = 0 ∨ (ad = L.at o ∧ o + cap * sz ≤ L.room)) (hc : cut c o (len * sz) = some old) :
 ∃ oldv, VRs ρ old oldv ∧ old = (c.drop o).take (len * sz) ∧ o + len * sz ≤ c.length ∧ ∀ w', w'.heap = w.heap → (Builtin.firstCells sz len (.slice (some ad) len cap)).run P w' = .ok ⟨oldv⟩ w' := by
 obtain ⟨C, t, fr, q1, q2⟩ := hW.blk b _ L hb hL
 obtain ⟨rfl, hlen⟩ := cut_some hc
 by_cases h0 : cap = 0
 ·have : len = 0 := by omega
  subst this
  refine ⟨[], by simp; exact .nil, rfl, hlen, fun w' _ => ?_⟩
  have := run_loadCells_list (P := P) (w := w') ad [] (by simp)
  simpa [Builtin.firstCells] using this
 ·obtain ⟨rfl, hr⟩ := h4.resolve_left h0
  have hroom := q2.room; have hfits := q2.fits
  refine ⟨_, q2.slice hlen, rfl, hlen, fun w' he => ?_⟩
  have := r_loadCells (P := P) w' (L := L) (C := C) (t := t) (fr := fr) (by rw [he]; exact q1) o (len * sz) (by omega)
  simp only [Builtin.firstCells, this]
theorem appendA_sound {t u el sz by_ ty : Nat} {ts : List TypeId} {d : TypeDesc} {zv sv x : Value} {s a : AV} {k : Nat} {l : List AV} {vs : List Value} (hW : WR ρ H0 m w) (ht : P.underlying t = some (.slice el)) (hs : szOf P el = some sz) (hby : byOf P el = some by_)
 (hz : zeroV P el = some zv) (hzs : zv.cells.size = sz) (hu : P.underlying u = some d) (hsv : VR ρ s sv) (hl : l.length = k * sz) (hv : VRs ρ l vs) (hsrc : SrcOk P el sz zv d x k vs #[w, w.drew])
 (h : appendA m el sz by_ s (some (k, l)) = some (a, m')) : Acts P ρ H0 m w (Builtin.append_ ⟨t :: u :: ts⟩ ty #[sv, x]) a m' := by
 have hsrc1 : SrcOk P el sz zv d x k vs #[w] := hsrc.sub (by intro w' h'; simp at h' ⊢; exact .inl h')
 have hlv := hv.length
 simp only [appendA] at h
 split at h
 ·-- of nil
  obtain rfl := nils_inv hsv
  split at h
  ·cases h
   refine ⟨.slice none 0 0, w, ρ, ?_, hW, Stp.refl _ _ _ _, .nils⟩
   rw [run_app_in (w := w) ht hs hz hu hsrc1 (by omega)]
   rfl
  ·rename_i hk0
   split at h
   ·rename_i hg
    rw [Bool.and_eq_true] at hg
    obtain ⟨g1, g2⟩ := hg
    have g1 := Nat.le_of_ble_eq_true g1
    have g2 := Nat.le_of_ble_eq_true g2
    cases h
    have hkk : k ≠ 0 := fun e => hk0 e
    obtain ⟨nc, hnc, hrun⟩ := run_app_grow (w := w) (ty := ty) (ts := ts) ht hs hby hz hu hsrc (old := []) (base := none) (len := 0) (cap := 0) (by simp [Builtin.firstCells]) (by omega) (by omega) (by simpa using g1)
    obtain ⟨p1, p2, p3⟩ := acts_grow (el := el) (len := 0) (olda := []) (old := []) (nc := nc) hW hzs .nil hv (by simp) hl hnc
    simp only [List.nil_append, Nat.zero_add] at p1 p2 p3 hrun
    exact ⟨_, _, _, hrun, p1, p2, p3⟩
   ·cases h
 ·rename_i b o s' len lb ex
  obtain ⟨L, ad, cap, hL, rfl, h1, h2, h3, h4⟩ := slice_inv hsv
  split at h
  ·cases h
  ·rename_i hsz
   obtain rfl := Nat.eq_of_beq_eq_true hsz
   split at h
   ·-- nothing is appended
    cases h
    have hvs : vs = [] := by
     have : vs.length = 0 := by rw [← hlv, hl]; simp
     exact List.length_eq_zero_iff.1 this
    subst hvs
    refine ⟨.slice (some ad) len cap, w, ρ, ?_, hW, Stp.refl _ _ _ _, hsv⟩
    rw [run_app_in (w := w) ht hs hz hu hsrc1 (by omega)]
    rfl
   ·rename_i hk0
    have hkk : k ≠ 0 := fun e => hk0 e
    split at h
    ·-- in its row
     rename_i hfit
     rw [Bool.and_eq_true] at hfit
     have hfit := Nat.le_of_ble_eq_true hfit.1
     split at h
     ·rename_i m1 hm1
      cases h
      obtain ⟨w', p1, p2, p3⟩ := write_sound (P := P) hW hL hv hm1
      obtain ⟨rfl, hroom⟩ := h4.resolve_left (by omega)
      refine ⟨.slice (some (L.at o)) (len + k) cap, w', ρ, ?_, p2, p3, .slice b o s' (len + k) lb ex L _ cap hL (by omega) h2 h3 (.inr ⟨rfl, hroom⟩)⟩
      rw [run_app_in (w := w) ht hs hz hu hsrc1 (by omega)]
      simp only [at_add, p1, Result.andThen_ok]
     ·cases h
    ·rename_i hfit
     split at h
     ·rename_i cls st ro fz c hg hb
      rw [Bool.and_eq_true, Bool.and_eq_true] at hg
      obtain ⟨⟨g1, g2⟩, g3⟩ := hg
      have g1 := Nat.le_of_ble_eq_true g1
      have g2 := Nat.le_of_ble_eq_true g2
      split at h
      ·cases h
      ·rename_i old hcut
       obtain ⟨oldv, ho, hold, hcl, hfc⟩ := old_cells (P := P) hW hb hL h1 h2 h4 hcut
       have holdlen : old.length = len * s' := by rw [hold]; simp; omega
       split at h
       ·-- a new row
        cases h
        have hfit : ¬ len + k ≤ lb := fun h => by rw [Nat.ble_eq_true_of_le h] at hfit; cases hfit
        have hcap := h3 rfl
        obtain ⟨nc, hnc, hrun⟩ := run_app_grow (w := w) (ty := ty) (ts := ts) ht hs hby hz hu hsrc (old := oldv) (base := some ad) (len := len) (cap := cap) (hfc w.drew rfl) (by omega) g2 g1
        obtain ⟨p1, p2, p3⟩ := acts_grow (el := el) (len := len) (olda := old) (old := oldv) (nc := nc) hW hzs ho hv holdlen hl hnc
        rw [← ap_eq] at p1 p2
        exact ⟨_, _, _, hrun, p1, p2, p3⟩
       ·split at h
        ·cases h
        ·split at h
         ·cases h
         ·rename_i q cls' mem bl hq
          generalize hkl : kill m.nx (st + o + len * s') (st + o + (len + k) * s') mem bl = r at h
          obtain ⟨bl', keep⟩ := r
          simp only [Option.some.injEq, Prod.mk.injEq] at h
          obtain ⟨rfl, rfl⟩ := h
          have hms : MayStay m ⟨m.nx + 1, bl'.set m.nx (some (.cells cls' (st + o) false (grownF el fz) (ap old l))), m.cl.set cls' (some (m.nx :: keep))⟩ b o s' len k l cls' st fz c old el (grownF el fz) := by
           have hq' : (∃ cls0, m.bl.get b = some (.cells cls0 st false fz c) ∧ (cls0 = cls' ∨ (cls0 = 0 ∧ m.cl.get cls' = none))) ∧ cls' ≠ 0 ∧ (∀ x, bl.get x = if x = b then some (.cells cls' st false fz c) else m.bl.get x) ∧ (m.cl.get cls' = some mem ∨ (m.cl.get cls' = none ∧ mem = [b])) := by
            split at hq
            ·rename_i hc0
             obtain rfl := Nat.eq_of_beq_eq_true hc0
             split at hq
             ·rename_i hnone
              simp only [Option.some.injEq, Prod.mk.injEq] at hq
              obtain ⟨rfl, rfl, rfl⟩ := hq
              exact ⟨⟨0, hb, .inr ⟨rfl, hnone⟩⟩, by omega, fun x => T.get_set _ _ _ _, .inr ⟨hnone, rfl⟩⟩
             ·cases hq
            ·rename_i hc0
             have hcls : cls ≠ 0 := by intro e; subst e; rw [Nat.beq_refl] at hc0; cases hc0
             obtain ⟨ids, hi, _⟩ := hW.cls b cls st false fz c hb hcls
             rw [hi] at hq
             simp only [Option.some.injEq, Prod.mk.injEq] at hq
             obtain ⟨rfl, rfl, rfl⟩ := hq
             refine ⟨⟨cls, hb, .inl rfl⟩, hcls, fun x => ?_, .inl hi⟩
             split
             ·rename_i e; subst e; exact hb
             ·rfl
           obtain ⟨e1, e2, e3, e4⟩ := hq'
           exact ⟨e1, e2, hold, hcl, grownF_ok el fz, rfl, mem, bl, bl', keep, e3, e4, hkl, fun x => by rw [← ap_eq]; exact T.get_set _ _ _ _, fun j => T.get_set _ _ _ _⟩
          by_cases hcap : len + k ≤ cap
          ·obtain ⟨rfl, hroom⟩ := h4.resolve_left (by omega)
           obtain ⟨w', ρ', p1, p2, p3, p4⟩ := stay_in (P := P) hW hms hL hv hl g3 hcap hroom
           refine ⟨.slice (some (L.at o)) (len + k) cap, w', ρ', ?_, p2, p3, p4⟩
           rw [run_app_in (w := w) ht hs hz hu hsrc1 hcap]
           simp only [at_add, p1, Result.andThen_ok]
          ·obtain ⟨nc, hnc, hrun⟩ := run_app_grow (w := w) (ty := ty) (ts := ts) ht hs hby hz hu hsrc (old := oldv) (base := some ad) (len := len) (cap := cap) (hfc w.drew rfl) hcap g2 g1
           obtain ⟨ρ', p1, p2, p3⟩ := stay_out (el := el) (nc := nc) hW hms hL hzs ho hv hl g3 hnc
           exact ⟨_, _, ρ', hrun, p1, p2, p3⟩
     ·cases h
 ·cases h
end Go.Vm

namespace Go.Vm
open Go Go.RowKit
variable {P : Program} {ρ ρ' : Rho} {H0 : Nat} {m m' : Mem} {w w' : World}
theorem zeroC_V {t : TypeId} {z : List AV} (ρ : Rho) (h : zeroC P t = some z) : ∃ v, zeroV P t = some v ∧ VRs ρ z v.cells.toList := zeroC_sound ρ h
theorem hApp_sound {t u el sz by_ ty : Nat} {ts : List TypeId} {d : TypeDesc} {z l : List AV} {sv xv : Value} {a : AV} (hW : WR ρ H0 m w) (ht : P.underlying t = some (.slice el)) (hs : szOf P el = some sz) (hby : byOf P el = some by_) (hz : zeroC P el = some z) (hzl : z.length = sz)
 (hu : P.underlying u = some d) (hd : ∀ k, d ≠ .int k) (hv : VRs ρ l [sv, xv]) (h : hApp el sz by_ m l = some (a, m')) : Acts P ρ H0 m w (Builtin.append_ ⟨t :: u :: ts⟩ ty #[sv, xv]) a m' := by
 obtain ⟨zv, hzv, hzr⟩ := zeroC_sound ρ hz
 have hzs : zv.cells.size = sz := by have := hzr.length; simp at this; omega
 unfold hApp at h
 split at h
 ·rename_i s x
  cases hv with
  | cons _ _ _ _ hs' hv => cases hv with
   | cons _ _ _ _ hx _ =>
    cases hsrc : srcOf m sz x with
    | none => rw [hsrc] at h; simp [appendA] at h
    | some p =>
     obtain ⟨k, l'⟩ := p
     rw [hsrc] at h
     obtain ⟨vs, q1, q2, q3, q4, _⟩ := srcOf_sound (P := P) hW hx hsrc
     have hlen := q1.length
     have hsk : SrcOk P el sz zv d xv k vs #[w, w.drew] := .cells d hd xv k vs _ fun w' hw' => by
      have hh : w'.heap = w.heap := by
       simp at hw'
       rcases hw' with rfl | rfl <;> rfl
      refine ⟨q2 w', ?_⟩
      have := q3 w' hh k (Nat.le_refl _)
      rwa [List.take_of_length_le (by omega)] at this
     exact appendA_sound hW ht hs hby hzv hzs hu hs' q4 q1 hsk h
 ·cases h
theorem hApz_sound {t u el sz by_ ty : Nat} {ts : List TypeId} {ki : IntKind} {z l : List AV} {sv xv : Value} {a : AV} (hW : WR ρ H0 m w) (ht : P.underlying t = some (.slice el)) (hs : szOf P el = some sz) (hby : byOf P el = some by_) (hz : zeroC P el = some z) (hzl : z.length = sz)
 (hu : P.underlying u = some (.int ki)) (hv : VRs ρ l [sv, xv]) (h : hApz el sz by_ z m l = some (a, m')) : Acts P ρ H0 m w (Builtin.append_ ⟨t :: u :: ts⟩ ty #[sv, xv]) a m' := by
 obtain ⟨zv, hzv, hzr⟩ := zeroC_sound ρ hz
 have hzs : zv.cells.size = sz := by have := hzr.length; simp at this; omega
 unfold hApz at h
 split at h
 ·rename_i s x
  cases hv with
  | cons _ _ _ _ hs' hv => cases hv with
   | cons _ _ _ _ hx _ =>
    cases hn : asNat x with
    | none => rw [hn] at h; simp [appendA] at h
    | some n =>
     rw [hn] at h
     simp only at h
     rw [ite_eq_if] at h
     split at h
     ·rename_i hg
      rw [Bool.and_eq_true] at hg
      obtain ⟨g1, g2⟩ := hg
      have g1 := Nat.le_of_ble_eq_true g1
      have g2 := Nat.le_of_ble_eq_true g2
      obtain ⟨kx, rfl⟩ := nat_inv hx hn
      obtain ⟨i', hi', hib⟩ := byOf_some hby
      have hvr : VRs ρ (repl n z) (if n * sz = 0 then [] else (Builtin.zeroCells zv.cells n).toList) := by
       split
       ·rename_i h0
        have : (repl n z).length = 0 := by rw [repl_length, hzl]; exact h0
        rw [List.length_eq_zero_iff.1 this]; exact .nil
       ·exact repl_vr hzr n
      exact appendA_sound hW ht hs hby hzv hzs hu hs' (by rw [repl_length, hzl]) hvr (.zeros ki kx n _ g2 (by intro i hi; rw [hi'] at hi; cases hi; rw [hib]; exact g1)) h
     ·simp [appendA] at h
 ·cases h
end Go.Vm

namespace Go.Vm
open Go Go.RowKit
variable {P : Program} {mid : String → Option Nat} {ρ ρ' : Rho} {H0 : Nat} {m m' : Mem} {w w' : World} {e : Env} {loc : List AV} {σ : Operand → Option Opd} {ev : Operand → Value}
def ActsX (P : Program) (ρ : Rho) (H0 : Nat) (m : Mem) (w : World) (ev : Operand → Value) (o : Oper) (a : AV) (m' : Mem) : Prop :=
 ∃ n w' ρ' v, (execOp ev o).run P w = .ok n w' ∧ (n = .value v ∨ (n = .skip ∧ v = undef)) ∧ WR ρ' H0 m' w' ∧ Stp H0 ρ m w ρ' m' w' ∧ VR ρ' a v
theorem of_acts {o : Oper} {s : Sem Value} {a : AV} (h : Acts P ρ H0 m w s a m') (he : execOp ev o = (do pure (.value (← s)))) : ActsX P ρ H0 m w ev o a m' := by
 obtain ⟨v, w', ρ', h1, h2⟩ := h
 refine ⟨.value v, w', ρ', v, ?_, .inl rfl, h2⟩
 rw [he, Sem.run_bind, h1]; rfl
theorem of_actsU {o : Oper} {s : Sem Unit} {a : AV} (h : ActsU P ρ H0 m w s m' ∧ a = undefA) (he : execOp ev o = (do s; pure .skip)) : ActsX P ρ H0 m w ev o a m' := by
 obtain ⟨⟨w', ρ', h1, h2, h3⟩, rfl⟩ := h
 refine ⟨.skip, w', ρ', undef, ?_, .inr ⟨rfl, rfl⟩, h2, h3, undef_vr⟩
 rw [he, Sem.run_bind, h1]; rfl
theorem evs_two {q r : Opd} {l : List AV} (h : evs e loc [q, r] = some l) : ∃ a b, q.ev e loc = some a ∧ r.ev e loc = some b ∧ l = [a, b] := by
 rw [evs_cons, evs_cons, evs_nil] at h
 split at h
 ·cases h
 ·rename_i a ha
  split at h
  ·cases h
  ·rename_i r' hr
   split at hr
   ·cases hr
   ·rename_i b hb
    cases hr; cases h
    exact ⟨a, b, ha, hb, rfl⟩
theorem evs_three {q r s : Opd} {l : List AV} (h : evs e loc [q, r, s] = some l) : ∃ a b c, q.ev e loc = some a ∧ r.ev e loc = some b ∧ s.ev e loc = some c ∧ l = [a, b, c] := by
 rw [evs_cons] at h
 split at h
 ·cases h
 ·rename_i a ha
  split at h
  ·cases h
  ·rename_i r' hr
   cases h
   obtain ⟨b, c, h1, h2, rfl⟩ := evs_two hr
   exact ⟨a, b, c, ha, h1, h2, rfl⟩
theorem evs_one {q : Opd} {l : List AV} (h : evs e loc [q] = some l) : ∃ a, q.ev e loc = some a ∧ l = [a] := by
 rw [evs_cons, evs_nil] at h
 split at h
 ·cases h
 ·rename_i a ha; cases h; exact ⟨a, ha, rfl⟩
theorem sliceE_some {t el : TypeId} (h : sliceE P t = some el) : P.underlying t = some (.slice el) := by
 unfold sliceE at h; split at h
 ·cases h; assumption
 ·cases h
theorem act_builtin (hW : WR ρ H0 m w) (hσ : OpdR ρ e loc σ ev) {o : Oper} {cl : Call} {b : Builtin} {f : FH} {xs : List Opd} {l : List AV} {a : AV} (ho : o.op = .call cl) (hb : cl.callee = .builtin b) (hc : compOp P mid o.op σ = some (.h (.eff f xs))) (hl : evs e loc xs = some l)
 (h : f.run m l = some (a, m')) : ActsX P ρ H0 m w ev o a m' := by
 have he : (execOp ev o).run P w = (builtin b cl.argTypes o.type (cl.args.map fun | .const _ => true | _ => false) (cl.args.map ev)).run P w := by
  simp only [execOp, ho, resolve, hb, Sem.run_bind, Sem.run_pure, Result.andThen_ok, invoke]
  rfl
 rw [ho] at hc
 simp only [compOp] at hc
 split at hc
 ·cases hc
 ·rename_i xs' hq
  rw [hb] at hc
  simp only at hc
  have hv : ∀ l, evs e loc xs' = some l → VRs ρ l (cl.args.toList.map ev) := fun l hl => opds_sound hσ _ _ _ hq hl
  have hargs : ∀ vs, cl.args.toList.map ev = vs → cl.args.map ev = ⟨vs⟩ := fun vs hvs => by apply Array.ext'; simpa using hvs
  have hats : ∀ ts, cl.argTypes.toList = ts → cl.argTypes = ⟨ts⟩ := fun ts hts => by apply Array.ext'; simpa using hts
  have fin : ∀ {s : Sem Value}, Acts P ρ H0 m w s a m' → (builtin b cl.argTypes o.type (cl.args.map fun | .const _ => true | _ => false) (cl.args.map ev)) = (do pure (.value (← s))) → ActsX P ρ H0 m w ev o a m' := by
   rintro s ⟨v, w', ρ', h1, h2⟩ hs
   refine ⟨.value v, w', ρ', v, ?_, .inl rfl, h2⟩
   rw [he, hs, Sem.run_bind, h1]; rfl
  have one : ∀ a', l = [a'] → xs' = xs → ∃ u, cl.args.map ev = #[u] ∧ VRs ρ l [u] := by
   intro a' hl' hx
   subst hx
   have := hv l hl
   subst hl'
   generalize hvs : cl.args.toList.map ev = vs at this
   cases this with
   | cons _ _ u _ h1 h2 => cases h2; exact ⟨u, hargs _ hvs, VRs.one h1⟩
  have two : ∀ a' b', l = [a', b'] → xs' = xs → ∃ u v, cl.args.map ev = #[u, v] ∧ VRs ρ l [u, v] := by
   intro a' b' hl' hx
   subst hx
   have := hv l hl
   subst hl'
   generalize hvs : cl.args.toList.map ev = vs at this
   cases this with
   | cons _ _ u _ h1 h2 => cases h2 with | cons _ _ v _ h3 h4 => cases h4; exact ⟨u, v, hargs _ hvs, .cons _ _ _ _ h1 (VRs.one h3)⟩
  unfold compBuiltin at hc
  split at hc
  ·-- append
   rename_i t u ts s x hats'
   have hat := hats _ hats'
   split at hc
   ·rename_i el hel
    split at hc
    ·rename_i sz by_ z d hs hby hz hu
     split at hc
     ·cases hc
     ·rename_i hzl
      have hzl := Nat.eq_of_beq_eq_true hzl
      split at hc
      ·rename_i ki
       cases hc
       obtain ⟨a1, a2, _, _, hl'⟩ := evs_two hl
       obtain ⟨u1, v1, hu1, hvr⟩ := two a1 a2 hl' rfl
       exact fin (hApz_sound hW (sliceE_some hel) hs hby hz hzl hu hvr h) (by rw [hat, hu1]; rfl)
      ·rename_i hd
       cases hc
       obtain ⟨a1, a2, _, _, hl'⟩ := evs_two hl
       obtain ⟨u1, v1, hu1, hvr⟩ := two a1 a2 hl' rfl
       exact fin (hApp_sound hW (sliceE_some hel) hs hby hz hzl hu (fun k e => hd k e) hvr h) (by rw [hat, hu1]; rfl)
    ·cases hc
   ·cases hc
  ·repeat' split at hc
   all_goals cases hc
  ·repeat' split at hc
   all_goals cases hc
  ·-- copy
   rename_i t ts d s hats'
   have hat := hats _ hats'
   split at hc
   ·rename_i el hel
    split at hc
    ·rename_i sz hs
     cases hc
     obtain ⟨a1, a2, _, _, hl'⟩ := evs_two hl
     obtain ⟨u1, v1, hu1, hvr⟩ := two a1 a2 hl' rfl
     exact fin (hCpy_sound hW (sliceE_some hel) hs hvr h) (by rw [hat, hu1]; rfl)
    ·cases hc
   ·cases hc
  ·-- delete
   rename_i t ts mp k hats'
   have hat := hats _ hats'
   split at hc
   ·rename_i kt el hu
    split at hc
    ·rename_i kd hk
     cases hc
     obtain ⟨a1, a2, _, _, hl'⟩ := evs_two hl
     obtain ⟨u1, v1, hu1, hvr⟩ := two a1 a2 hl' rfl
     exact fin (hDel_sound hW hu hk hvr h) (by rw [hat, hu1]; rfl)
    ·cases hc
   ·cases hc
  ·-- clear
   rename_i t ts mp hats'
   have hat := hats _ hats'
   split at hc
   ·rename_i kt el hu
    cases hc
    obtain ⟨a1, _, hl'⟩ := evs_one hl
    obtain ⟨u1, hu1, hvr⟩ := one a1 hl' rfl
    exact fin (hClrM_sound hW hu hvr h) (by rw [hat, hu1]; rfl)
   ·rename_i el hu
    split at hc
    ·rename_i sz z hs hz
     cases hc
     obtain ⟨a1, _, hl'⟩ := evs_one hl
     obtain ⟨u1, hu1, hvr⟩ := one a1 hl' rfl
     exact fin (hClrS_sound hW hu hs hz hvr h) (by rw [hat, hu1]; rfl)
    ·cases hc
   ·cases hc
  ·cases hc
  ·cases hc
  ·cases hc
  ·cases hc
  ·cases hc
  ·cases hc
  ·-- a string over bytes
   rename_i t ts p n hats'
   have hat := hats _ hats'
   split at hc
   ·rename_i el hu
    split at hc
    ·rename_i hc1
     cases hc
     obtain ⟨a1, a2, _, _, hl'⟩ := evs_two hl
     obtain ⟨u1, v1, hu1, hvr⟩ := two a1 a2 hl' rfl
     exact fin (hUsr_sound hW hu (Nat.eq_of_beq_eq_true hc1) ts hvr h) (by rw [hat, hu1]; rfl)
    ·cases hc
   ·cases hc
  all_goals (cases hc)
end Go.Vm

namespace Go.Vm
open Go Go.RowKit
variable {P : Program} {mid : String → Option Nat} {ρ ρ' : Rho} {H0 : Nat} {m m' : Mem} {w w' : World} {e : Env} {loc : List AV} {σ : Operand → Option Opd} {ev : Operand → Value}
theorem eff_sound (hW : WR ρ H0 m w) (hσ : OpdR ρ e loc σ ev) {o : Oper} {f : FH} {xs : List Opd} {l : List AV} {a : AV} (hc : compOp P mid o.op σ = some (.h (.eff f xs))) (hl : evs e loc xs = some l) (h : f.run m l = some (a, m')) : ActsX P ρ H0 m w ev o a m' := by
 cases ho : o.op with
 | store t x y =>
  have he : execOp ev o = (do Instr.storeAt t (ev x) (ev y); pure .skip) := by simp only [execOp, ho]
  rw [ho] at hc; simp only [compOp] at hc
  split at hc
  ·rename_i n q1 q2 hn h1 h2
   cases hc
   obtain ⟨a1, a2, e1, e2, rfl⟩ := evs_two hl
   exact of_actsU (hSto_sound hW hn (.cons _ _ _ _ (hσ _ _ _ h1 e1) (VRs.one (hσ _ _ _ h2 e2))) h) he
  ·cases hc
 | mapUpdate t x y z =>
  have he : execOp ev o = (do Instr.mapUpdate t (ev x) (ev y) (ev z); pure .skip) := by simp only [execOp, ho]
  rw [ho] at hc; simp only [compOp] at hc
  split at hc
  ·rename_i kt el q1 q2 q3 hu h1 h2 h3
   split at hc
   ·rename_i kd hk
    cases hc
    obtain ⟨a1, a2, a3, e1, e2, e3, rfl⟩ := evs_three hl
    exact of_actsU (hMup_sound hW hu hk (.cons _ _ _ _ (hσ _ _ _ h1 e1) (.cons _ _ _ _ (hσ _ _ _ h2 e2) (VRs.one (hσ _ _ _ h3 e3)))) h) he
   ·cases hc
  ·cases hc
 | insert t x y z =>
  have he : execOp ev o = (do Instr.mapUpdate t (ev x) (ev y) (ev z); pure .skip) := by simp only [execOp, ho]
  rw [ho] at hc; simp only [compOp] at hc
  split at hc
  ·rename_i kt el q1 q2 q3 hu h1 h2 h3
   split at hc
   ·rename_i kd hk
    cases hc
    obtain ⟨a1, a2, a3, e1, e2, e3, rfl⟩ := evs_three hl
    exact of_actsU (hMup_sound hW hu hk (.cons _ _ _ _ (hσ _ _ _ h1 e1) (.cons _ _ _ _ (hσ _ _ _ h2 e2) (VRs.one (hσ _ _ _ h3 e3)))) h) he
   ·cases hc
  ·cases hc
 | mapEntry t x y =>
  have he : execOp ev o = (do pure (.value (← Instr.mapEntry t (ev x) (ev y)))) := by simp only [execOp, ho]
  rw [ho] at hc; simp only [compOp] at hc
  split at hc
  ·rename_i kt el q1 q2 hu h1 h2
   split at hc
   ·rename_i kd z hk hz
    cases hc
    obtain ⟨a1, a2, e1, e2, rfl⟩ := evs_two hl
    exact of_acts (hMen_sound hW hu hk hz (.cons _ _ _ _ (hσ _ _ _ h1 e1) (VRs.one (hσ _ _ _ h2 e2))) h) he
   ·cases hc
  ·cases hc
 | entryStore t x y z =>
  have he : execOp ev o = (do Instr.entryStore t (ev x) (ev y) (ev z); pure .skip) := by simp only [execOp, ho]
  rw [ho] at hc; simp only [compOp] at hc
  split at hc
  ·rename_i q1 q2 q3 h1 h2 h3
   cases hc
   obtain ⟨a1, a2, a3, e1, e2, e3, rfl⟩ := evs_three hl
   exact of_actsU (hEst_sound hW (.cons _ _ _ _ (hσ _ _ _ h1 e1) (.cons _ _ _ _ (hσ _ _ _ h2 e2) (VRs.one (hσ _ _ _ h3 e3)))) h) he
  ·cases hc
 | range t x =>
  have he : execOp ev o = (do pure (.value (← Instr.range t (ev x)))) := by simp only [execOp, ho]
  rw [ho] at hc; simp only [compOp] at hc
  split at hc
  ·rename_i q1 hu h1
   cases hc
   obtain ⟨a1, e1, rfl⟩ := evs_one hl
   exact of_acts (hRng_sound hW hu (VRs.one (hσ _ _ _ h1 e1)) h) he
  ·cases hc
 | next x b =>
  rw [ho] at hc
  cases b <;> simp only [compOp] at hc
  ·cases hc
  ·have he : execOp ev o = (do pure (.value (← Instr.next (ev x) true o.type))) := by simp only [execOp, ho]
   obtain ⟨q, hq, hc⟩ := ofO_some hc
   cases hc
   obtain ⟨a1, e1, rfl⟩ := evs_one hl
   exact of_acts (hNxt_sound hW (VRs.one (hσ _ _ _ hq e1)) h) he
 | call cl =>
  cases hcl : cl.callee with
  | builtin b => exact act_builtin hW hσ ho hcl hc hl h
  | value f =>
   rw [ho] at hc; simp only [compOp, hcl] at hc
   repeat' split at hc
   all_goals cases hc
  | invoke r n =>
   rw [ho] at hc; simp only [compOp, hcl] at hc
   repeat' split at hc
   all_goals cases hc
 | move x => rw [ho] at hc; simp only [compOp] at hc; obtain ⟨q, hq, hc⟩ := ofO_some hc; cases hc
 | assign x => rw [ho] at hc; simp only [compOp] at hc; obtain ⟨q, hq, hc⟩ := ofO_some hc; cases hc
 | nilCheck x => rw [ho] at hc; simp only [compOp] at hc; obtain ⟨q, hq, hc⟩ := ofO_some hc; cases hc
 | extract t i => rw [ho] at hc; simp only [compOp] at hc; obtain ⟨q, hq, hc⟩ := ofO_some hc; cases hc
 | panic x => rw [ho] at hc; simp only [compOp] at hc; obtain ⟨q, hq, hc⟩ := ofO_some hc; cases hc
 | alloc t => rw [ho] at hc; simp only [compOp] at hc; obtain ⟨q, hq, hc⟩ := ofO_some hc; cases hc
 | convert s d x =>
  rw [ho] at hc; simp only [compOp] at hc; obtain ⟨q, hq, hc⟩ := ofO_some hc
  unfold compConv at hc
  repeat' split at hc
  all_goals cases hc
 | makeFunc f p q =>
  rw [ho] at hc
  cases f with
  | func f => simp only [compOp] at hc; obtain ⟨q, hq, hc⟩ := ofO_some hc; cases hc
  | _ => simp [compOp] at hc
 | makeMap t r =>
  rw [ho] at hc
  cases r <;> simp only [compOp] at hc <;> cases hc
 | binOp op t x y yt =>
  rw [ho] at hc; simp only [compOp] at hc
  split at hc
  ·unfold compBin compEq at hc
   repeat' split at hc
   all_goals cases hc
  ·cases hc
 | typeAssert x xt t ok =>
  rw [ho] at hc; simp only [compOp] at hc
  repeat' split at hc
  all_goals first
   | (cases hc; done)
   | (obtain ⟨q, hq, hc⟩ := ofO_some hc; cases hc)
 | defer cl =>
  rw [ho] at hc; simp only [compOp] at hc
  split at hc
  ·obtain ⟨q, hq, hc⟩ := ofO_some hc; cases hc
  ·cases hc
 | build t ps =>
  rw [ho] at hc; simp only [compOp] at hc
  repeat' split at hc
  all_goals first
   | (cases hc; done)
   | (obtain ⟨q, hq, hc⟩ := ofO_some hc; cases hc)
 | slice t x lo hi mx =>
  rw [ho] at hc; simp only [compOp] at hc
  repeat' split at hc
  all_goals first
   | (cases hc; done)
   | (obtain ⟨q, hq, hc⟩ := ofO_some hc; cases hc)
 | indexAddr t x y =>
  rw [ho] at hc; simp only [compOp] at hc
  repeat' split at hc
  all_goals first
   | (cases hc; done)
   | (obtain ⟨q, hq, hc⟩ := ofO_some hc; cases hc)
 | pick c x y => rw [ho] at hc; simp only [compOp] at hc; repeat' split at hc
                 all_goals cases hc
 | box t x => rw [ho] at hc; simp only [compOp] at hc; repeat' split at hc
              all_goals cases hc
 | buildSlice t n ps => rw [ho] at hc; simp only [compOp] at hc; repeat' split at hc
                        all_goals cases hc
 | makeSlice t x y => rw [ho] at hc; simp only [compOp] at hc; repeat' split at hc
                      all_goals cases hc
 | load t x => rw [ho] at hc; simp only [compOp] at hc; repeat' split at hc
               all_goals cases hc
 | unOp op t x => rw [ho] at hc; simp only [compOp] at hc; repeat' split at hc
                  all_goals cases hc
 | makeInterface t x => rw [ho] at hc; simp only [compOp] at hc; repeat' split at hc
                        all_goals cases hc
 | fieldAddr s x i => rw [ho] at hc; simp only [compOp] at hc; repeat' split at hc
                      all_goals cases hc
 | field s x i => rw [ho] at hc; simp only [compOp] at hc; repeat' split at hc
                  all_goals cases hc
 | index t x y => rw [ho] at hc; simp only [compOp] at hc; repeat' split at hc
                  all_goals cases hc
 | lookup t x y ok => rw [ho] at hc; simp only [compOp] at hc; repeat' split at hc
                      all_goals cases hc
 | _ => rw [ho] at hc; simp [compOp] at hc
end Go.Vm

namespace Go.Vm
open Go Go.RowKit
def bitsOf (acc : Array Nat) (o : Oper) : Nat := o.after.foldl (fun s e => if Region.binds .any e then s ||| 2 ^ e.on ||| acc.getD e.on 0 else s) 0
theorem before_eq (ops : Array Oper) : Region.before ops = ops.toList.foldl (fun acc o => acc.push (bitsOf acc o)) #[] := by
 unfold Region.before
 rw [← Array.foldl_toList]
 rfl
theorem bits_fold (acc : Array Nat) (j : Nat) : ∀ (es : List Edge) (s : Nat), (es.foldl (fun s e => if Region.binds .any e then s ||| 2 ^ e.on ||| acc.getD e.on 0 else s) s).testBit j = true →
 s.testBit j = true ∨ ∃ e ∈ es, Region.binds .any e = true ∧ (j = e.on ∨ (acc.getD e.on 0).testBit j = true)
 | [], s, h => .inl h
 | e :: es, s, h => by
  simp only [List.foldl_cons] at h
  rcases bits_fold acc j es _ h with h | ⟨e', he', h⟩
  ·split at h
   ·rename_i hb
    rw [Nat.testBit_or, Nat.testBit_or, Bool.or_eq_true, Bool.or_eq_true] at h
    rcases h with (h | h) | h
    ·exact .inl h
    ·rw [Nat.testBit_two_pow] at h
     exact .inr ⟨e, List.mem_cons_self, hb, .inl (by simpa using Eq.symm (by simpa using h))⟩
    ·exact .inr ⟨e, List.mem_cons_self, hb, .inr h⟩
   ·exact .inl h
  ·exact .inr ⟨e', List.mem_cons_of_mem _ he', h⟩
theorem bits_has (acc : Array Nat) (j : Nat) : ∀ (es : List Edge) (s : Nat), (s.testBit j = true ∨ ∃ e ∈ es, Region.binds .any e = true ∧ j = e.on) →
 (es.foldl (fun s e => if Region.binds .any e then s ||| 2 ^ e.on ||| acc.getD e.on 0 else s) s).testBit j = true
 | [], s, h => by
  rcases h with h | ⟨e, he, _⟩
  ·exact h
  ·cases he
 | e :: es, s, h => by
  simp only [List.foldl_cons]
  apply bits_has acc j es
  rcases h with h | ⟨e', he', hb, rfl⟩
  ·left
   split
   ·rw [Nat.testBit_or, Nat.testBit_or, h]; simp
   ·exact h
  ·rcases List.mem_cons.1 he' with rfl | he'
   ·left
    rw [if_pos hb, Nat.testBit_or, Nat.testBit_or, Nat.testBit_two_pow]
    simp
   ·exact .inr ⟨e', he', hb, rfl⟩
theorem push_fold : ∀ (l : List Oper) (acc : Array Nat), let r := l.foldl (fun acc o => acc.push (bitsOf acc o)) acc
 r.size = acc.size + l.length ∧ (∀ i, i < acc.size → r[i]? = acc[i]?) ∧
 ∀ (k : Nat) o, l[k]? = some o → ∃ acc', r[acc.size + k]? = some (bitsOf acc' o) ∧ acc'.size = acc.size + k ∧ ∀ i, i < acc'.size → acc'[i]? = r[i]?
 | [], acc => by simp
 | o :: l, acc => by
  obtain ⟨h1, h2, h3⟩ := push_fold l (acc.push (bitsOf acc o))
  simp only [List.foldl_cons]
  refine ⟨by rw [h1]; simp; omega, ?_, ?_⟩
  ·intro i hi
   rw [h2 i (by simp; omega), Array.getElem?_push, if_neg (by omega)]
  ·intro k o' ho
   cases k with
   | zero =>
    simp at ho; subst ho
    refine ⟨acc, ?_, by simp, ?_⟩
    ·rw [h2 _ (by simp), Array.getElem?_push, if_pos (by simp)]
    ·intro i hi
     rw [h2 i (by simp; omega), Array.getElem?_push, if_neg (by omega)]
   | succ k =>
    obtain ⟨acc', q1, q2, q3⟩ := h3 k o' (by simpa using ho)
    refine ⟨acc', ?_, by rw [q2]; simp; omega, q3⟩
    rw [← q1]
    congr 1
    simp; omega
theorem before_get (ops : Array Oper) {i : Nat} {o : Oper} (ho : ops[i]? = some o) : ∃ acc : Array Nat, (Region.before ops).getD i 0 = bitsOf acc o ∧ acc.size = i ∧ ∀ k, k < i → acc[k]? = (Region.before ops)[k]? := by
 rw [before_eq]
 obtain ⟨h1, h2, h3⟩ := push_fold ops.toList #[]
 obtain ⟨acc, q1, q2, q3⟩ := h3 i o (by rw [Array.getElem?_toList]; exact ho)
 simp only [Nat.zero_add, List.size_toArray, List.length_nil] at q1 q2
 refine ⟨acc, ?_, q2, fun k hk => q3 k (by omega)⟩
 rw [Array.getD_eq_getD_getElem?, q1]; rfl
def Closed (ops : Array Oper) (D : Nat → Prop) : Prop := ∀ i o, D i → ops[i]? = some o → ∀ e ∈ o.after, Region.binds .any e = true → D e.on
theorem before_sub {ops : Array Oper} {D : Nat → Prop} (hD : Closed ops D) (hin : ∀ i, D i → i < ops.size) : ∀ (i : Nat) (o : Oper), ops[i]? = some o → (∀ e ∈ o.after, Region.binds .any e = true → D e.on) → ∀ j, ((Region.before ops).getD i 0).testBit j = true → D j := by
 intro i
 induction i using Nat.strongRecOn with
 | _ i ih =>
  intro o ho hpre j hj
  obtain ⟨acc, h1, h2, h3⟩ := before_get ops ho
  rw [h1] at hj
  unfold bitsOf at hj
  rw [← Array.foldl_toList] at hj
  rcases bits_fold acc j _ _ hj with h | ⟨e, he, hb, h⟩
  ·simp at h
  ·have he' : e ∈ o.after := Array.mem_toList_iff.1 he
   have hDe := hpre e he' hb
   rcases h with rfl | h
   ·exact hDe
   ·by_cases hlt : e.on < i
    ·rw [Array.getD_eq_getD_getElem?, h3 _ hlt] at h
     have hs := hin e.on hDe
     obtain ⟨o', ho'⟩ : ∃ o', ops[e.on]? = some o' := ⟨ops[e.on], by simp [hs]⟩
     exact ih e.on hlt o' ho' (fun e2 he2 hb2 => hD e.on o' hDe ho' e2 he2 hb2) j (by rw [Array.getD_eq_getD_getElem?]; exact h)
    ·have : acc[e.on]? = none := by simp; omega
     rw [Array.getD_eq_getD_getElem?, this] at h
     simp at h
theorem before_has {ops : Array Oper} {i : Nat} {o : Oper} (ho : ops[i]? = some o) {e : Edge} (he : e ∈ o.after) (hb : Region.binds .any e = true) : ((Region.before ops).getD i 0).testBit e.on = true := by
 obtain ⟨acc, h1, h2, h3⟩ := before_get ops ho
 rw [h1]
 unfold bitsOf
 rw [← Array.foldl_toList]
 exact bits_has acc e.on _ _ (.inr ⟨e, Array.mem_toList_iff.2 he, hb, rfl⟩)
end Go.Vm

namespace Go.Vm
open Go Go.RowKit
inductive Valid (anc : Array Nat) (n : Nat) : List Nat → List Nat → Prop where
 | nil (D : List Nat) (h : ∀ i, i < n → i ∈ D) : Valid anc n D []
 | cons (D : List Nat) (i : Nat) (τ : List Nat) (hi : i < n) (hn : i ∉ D) (ha : ∀ j, (anc.getD i 0).testBit j = true → j ∈ D) (t : Valid anc n (i :: D) τ) : Valid anc n D (i :: τ)
theorem Valid.progress {anc : Array Nat} {n : Nat} {D0 σ : List Nat} (h : Valid anc n D0 σ) : ∀ {D : List Nat}, (∀ x ∈ D0, x ∈ D) → (∃ i, i < n ∧ i ∉ D) → ∃ i, i < n ∧ i ∉ D ∧ ∀ j, (anc.getD i 0).testBit j = true → j ∈ D := by
 induction h with
 | nil D0 h => intro D hs ⟨i, hi, hn⟩; exact absurd (hs i (h i hi)) hn
 | cons D0 i τ hi hn ha t ih =>
  intro D hs hex
  by_cases hd : i ∈ D
  ·exact ih (fun x hx => by
    rcases List.mem_cons.1 hx with rfl | hx
    ·exact hd
    ·exact hs x hx) hex
  ·exact ⟨i, hi, hd, fun j hj => hs j (ha j hj)⟩
theorem countP_lt {p q : Nat → Bool} (hpq : ∀ x, q x = true → p x = true) {i : Nat} : ∀ {l : List Nat}, i ∈ l → p i = true → q i = false → l.countP q < l.countP p
 | [], h, _, _ => by cases h
 | x :: l, h, hp, hq => by
  have hle : l.countP q ≤ l.countP p := List.countP_mono_left (fun y _ => hpq y)
  rcases List.mem_cons.1 h with rfl | h
  ·rw [List.countP_cons_of_pos hp, List.countP_cons_of_neg (by simp [hq])]; omega
  ·have ih := countP_lt hpq h hp hq
   by_cases hx : q x = true
   ·rw [List.countP_cons_of_pos hx, List.countP_cons_of_pos (hpq x hx)]; omega
   ·rw [List.countP_cons_of_neg hx]
    by_cases hx' : p x = true
    ·rw [List.countP_cons_of_pos hx']; omega
    ·rw [List.countP_cons_of_neg hx']; exact ih
theorem go_valid (ops : Array Oper) {σ : List Nat} (hσ : Valid (Region.before ops) ops.size [] σ) : ∀ (fuel t : Nat) (listed : Array Bool) (D : List Nat), listed.size = ops.size → (∀ i, i < ops.size → (listed.getD i true = true ↔ i ∈ D)) → (∀ i ∈ D, i < ops.size) →
 Closed ops (· ∈ D) → (List.range ops.size).countP (fun i => !listed.getD i true) ≤ fuel → Valid (Region.before ops) ops.size D (Region.linearise.go .any ops fuel t listed [])
 | 0, t, listed, D, hs, hl, hin, hc, hf => by
  refine .nil D fun i hi => ?_
  apply (hl i hi).1
  cases h : listed.getD i true with
  | true => rfl
  | false =>
   have : 0 < (List.range ops.size).countP (fun i => !listed.getD i true) := by
    rw [List.countP_pos_iff]
    exact ⟨i, by simpa using hi, by simp only [h]; rfl⟩
   omega
 | fuel + 1, t, listed, D, hs, hl, hin, hc, hf => by
  have hgd : ∀ i, i < ops.size → listed.getD i false = listed.getD i true := by
   intro i hi
   simp [Array.getD, hs, hi]
  have hmem : ∀ i, i ∈ Region.ready .any ops listed ↔ (i < ops.size ∧ i ∉ D ∧ ∀ o, ops[i]? = some o → ∀ e ∈ o.after, Region.binds .any e = true → e.on ∈ D) := by
   intro i
   simp only [Region.ready, List.mem_filter, List.mem_range, Bool.and_eq_true]
   constructor
   ·rintro ⟨hi, h1, h2⟩
    refine ⟨hi, ?_, ?_⟩
    ·intro hd
     rw [(hl i hi).2 hd] at h1
     cases h1
    ·intro o ho e he hb
     rw [ho] at h2
     simp only [Option.map_some, Option.getD_some] at h2
     rw [Array.all_eq_true_iff_forall_mem] at h2
     have := h2 e he
     rw [hb] at this
     simp only [Bool.not_true, Bool.false_or] at this
     have hlt : e.on < ops.size := by
      rcases Nat.lt_or_ge e.on ops.size with h | h
      ·exact h
      ·rw [Array.getD_eq_getD_getElem?, Array.getElem?_eq_none (by omega)] at this
       cases this
     rw [hgd _ hlt] at this
     exact (hl _ hlt).1 this
   ·rintro ⟨hi, h1, h2⟩
    refine ⟨hi, ?_, ?_⟩
    ·cases h : listed.getD i true with
     | true => exact absurd ((hl i hi).1 h) h1
     | false => rfl
    ·have ho : ops[i]? = some ops[i] := by simp [hi]
     rw [ho]
     simp only [Option.map_some, Option.getD_some]
     rw [Array.all_eq_true_iff_forall_mem]
     intro e he
     cases hb : Region.binds .any e with
     | false => rfl
     | true =>
      have hd := h2 _ ho e he hb
      have hlt := hin _ hd
      simp only [Bool.not_true, Bool.false_or]
      rw [hgd _ hlt]
      exact (hl _ hlt).2 hd
  simp only [Region.linearise.go]
  change Valid _ _ D (match (Region.ready .any ops listed)[t % (Region.ready .any ops listed).length]? with
   | some i => Region.linearise.go .any ops fuel (t / (Region.ready .any ops listed).length) (listed.setIfInBounds i true) [i]
   | none => [].reverse)
  cases hi : (Region.ready .any ops listed)[t % (Region.ready .any ops listed).length]? with
  | none =>
   have hnil : Region.ready .any ops listed = [] := by
    cases hr : Region.ready .any ops listed with
    | nil => rfl
    | cons x xs =>
     rw [hr] at hi
     have hlt : t % (x :: xs).length < (x :: xs).length := Nat.mod_lt _ (by simp)
     rw [List.getElem?_eq_getElem hlt] at hi
     cases hi
   refine .nil D fun i hlt => Classical.byContradiction fun hn => ?_
   obtain ⟨j, hj, hjn, hja⟩ := hσ.progress (D := D) (by simp) ⟨i, hlt, hn⟩
   have : j ∈ Region.ready .any ops listed := (hmem j).2 ⟨hj, hjn, fun o ho e he hb => hja _ (before_has ho he hb)⟩
   rw [hnil] at this
   cases this
  | some i =>
   obtain ⟨hlt, hn, hpre⟩ := (hmem i).1 (List.mem_of_getElem? hi)
   simp only []
   rw [linearise_go_acc, List.reverse_singleton, List.singleton_append]
   have ho : ops[i]? = some ops[i] := by simp [hlt]
   refine .cons D i _ hlt hn (fun j hj => before_sub (D := (· ∈ D)) hc hin i _ ho (hpre _ ho) j hj) ?_
   refine go_valid ops hσ fuel _ _ (i :: D) (by simpa using hs) ?_ ?_ ?_ ?_
   ·intro j hj
    by_cases hji : j = i
    ·subst hji
     simp [Array.getD, hs, hj]
    ·have : (listed.setIfInBounds i true).getD j true = listed.getD j true := by
      simp [Array.getD, hs, hj, Ne.symm hji]
     rw [this, hl j hj]
     simp [hji]
   ·intro j hj
    rcases List.mem_cons.1 hj with rfl | hj
    ·exact hlt
    ·exact hin j hj
   ·intro j o hj ho' e he hb
    rcases List.mem_cons.1 hj with rfl | hj
    ·exact List.mem_cons_of_mem _ (hpre o ho' e he hb)
    ·exact List.mem_cons_of_mem _ (hc j o hj ho' e he hb)
   ·have := countP_lt (p := fun j => !listed.getD j true) (q := fun j => !(listed.setIfInBounds i true).getD j true) (i := i) (l := List.range ops.size) ?_ (by simpa using hlt) ?_ ?_
    ·omega
    ·intro x hx
     by_cases hxi : x = i
     ·subst hxi; simp [Array.getD, hs, hlt] at hx
     ·by_cases hxl : x < ops.size
      ·simpa [Array.getD, hs, hxl, Array.getElem_setIfInBounds, Ne.symm hxi] using hx
      ·simp [Array.getD, hs, hxl] at hx
    ·cases h : listed.getD i true with
     | true => exact absurd ((hl i hlt).1 h) hn
     | false => rfl
    ·simp [Array.getD, hs, hlt]
end Go.Vm

namespace Go.Vm
open Go Go.RowKit
theorem schedule_valid (ops : Array Oper) {σ : List Nat} (hσ : Valid (Region.before ops) ops.size [] σ) (t : Nat) : Valid (Region.before ops) ops.size [] (Region.schedule true ops t) := by
 simp only [Region.schedule, Bool.true_or, if_true, Region.linearise]
 refine go_valid ops hσ ops.size t _ [] (by simp) ?_ (by simp) (by intro i o h; cases h) ?_
 ·intro i hi
  simp [Array.getD, hi]
 ·refine Nat.le_trans List.countP_le_length ?_
  simp
theorem range_valid_from (n : Nat) : ∀ (k i : Nat) (D : List Nat), i + k = n → (∀ j, j ∈ D ↔ j < i) → Valid ((Array.range n).map fun i => 2 ^ i - 1) n D (List.range' i k)
 | 0, i, D, h, hD => .nil D fun j hj => (hD j).2 (by omega)
 | k + 1, i, D, h, hD => by
  rw [List.range'_succ]
  refine .cons D i _ (by omega) (fun hm => by have := (hD i).1 hm; omega) ?_ (range_valid_from n k (i + 1) (i :: D) (by omega) ?_)
  ·intro j hj
   have e : ((Array.range n).map fun i => 2 ^ i - 1).getD i 0 = 2 ^ i - 1 := by
    have : i < n := by omega
    simp [Array.getD, this]
   rw [e, Nat.testBit_two_pow_sub_one] at hj
   exact (hD j).2 (by simpa using hj)
  ·intro j
   simp only [List.mem_cons, hD]
   omega
theorem range_valid (n : Nat) : Valid ((Array.range n).map fun i => 2 ^ i - 1) n [] (List.range n) := by
 rw [List.range_eq_range']
 exact range_valid_from n n 0 [] (by omega) (by simp)
end Go.Vm

namespace Go.Vm
open Go
variable {P : Program} {mid : String → Option Nat} {e : Env} {loc : List AV} {m m' : Mem} {σ : Operand → Option Opd}
theorem pure_mem {c : LOp} (h : readsMem c = false) (m m' : Mem) : c.pure e loc m = c.pure e loc m' := by
 cases c <;> first | rfl | cases h
theorem reads_sound {op : Op} {c : LOp} (hc : compOp P mid op σ = some (.l c)) (hr : readsMem c = true) : readsOf P op = true := by
 cases op with
 | load t x => rfl
 | lookup t x y ok => rfl
 | slice t x lo hi mx =>
  simp only [compOp] at hc
  split at hc
  ·cases hc
  ·split at hc
   ·split at hc <;> first | (cases hc; cases hr; done) | (cases hc; done)
   ·obtain ⟨q, hq, hc⟩ := ofO_some hc; cases hc; cases hr
   ·rename_i hu; simp [readsOf, hu]
   ·cases hc
 | convert s d x =>
  simp only [compOp] at hc
  obtain ⟨q, hq, hc⟩ := ofO_some hc
  unfold compConv at hc
  split at hc
  ·cases hc; cases hr
  ·cases hc; cases hr
  ·rename_i hu _; simp [readsOf, hu]
  ·rename_i hu _; simp [readsOf, hu]
  ·cases hc; cases hr
  ·split at hc <;> first | (cases hc; cases hr; done) | (cases hc; done)
  ·rename_i hu _; simp [readsOf, hu]
  ·cases hc
 | binOp op t x y yt =>
  simp only [compOp] at hc
  split at hc
  ·unfold compBin at hc
   split at hc
   ·cases hc; cases hr
   ·split at hc <;> first | (cases hc; cases hr; done) | (cases hc; done)
   ·split at hc <;> first | (cases hc; cases hr; done) | (cases hc; done)
   ·rename_i d hni hns hnb hu
    simp only [readsOf, hu]
    cases d <;> first | rfl | exact (hni _ rfl).elim | exact (hns rfl).elim | exact (hnb rfl).elim
   ·cases hc
  ·cases hc
 | call cl =>
  simp only [compOp] at hc
  split at hc
  ·cases hc
  ·split at hc
   ·rename_i xs hq b hb
    unfold compBuiltin at hc
    split at hc
    case h_2 =>
     rename_i t ts x hats
     split at hc
     case h_4 =>
      rename_i hu
      simp [readsOf, hb, hats, hu]
     all_goals (repeat' split at hc)
     all_goals (cases hc; try cases hr)
    all_goals (repeat' split at hc)
    all_goals (cases hc; try cases hr)
   all_goals (repeat' split at hc)
   all_goals cases hc
 | move x => simp only [compOp] at hc; obtain ⟨q, hq, hc⟩ := ofO_some hc; cases hc; cases hr
 | assign x => simp only [compOp] at hc; obtain ⟨q, hq, hc⟩ := ofO_some hc; cases hc; cases hr
 | nilCheck x => simp only [compOp] at hc; obtain ⟨q, hq, hc⟩ := ofO_some hc; cases hc; cases hr
 | extract t i => simp only [compOp] at hc; obtain ⟨q, hq, hc⟩ := ofO_some hc; cases hc; cases hr
 | panic x => simp only [compOp] at hc; obtain ⟨q, hq, hc⟩ := ofO_some hc; cases hc
 | alloc t => simp only [compOp] at hc; obtain ⟨q, hq, hc⟩ := ofO_some hc; cases hc; cases hr
 | next x b =>
  cases b <;> simp only [compOp] at hc
  ·cases hc
  ·obtain ⟨q, hq, hc⟩ := ofO_some hc; cases hc
 | makeFunc f p q =>
  cases f with
  | func f => simp only [compOp] at hc; obtain ⟨q, hq, hc⟩ := ofO_some hc; cases hc; cases hr
  | _ => simp [compOp] at hc
 | makeMap t r => cases r <;> simp only [compOp] at hc <;> cases hc; cases hr
 | typeAssert x xt t ok =>
  simp only [compOp] at hc
  repeat' split at hc
  all_goals first
   | (cases hc; done)
   | (cases hc; cases hr; done)
   | (obtain ⟨q, hq, hc⟩ := ofO_some hc; cases hc; cases hr)
 | defer cl =>
  simp only [compOp] at hc
  split at hc
  ·obtain ⟨q, hq, hc⟩ := ofO_some hc; cases hc
  ·cases hc
 | build t ps =>
  simp only [compOp] at hc
  repeat' split at hc
  all_goals first
   | (cases hc; try cases hr; done)
   | (obtain ⟨q, hq, hc⟩ := ofO_some hc; cases hc; cases hr)
 | indexAddr t x y =>
  simp only [compOp] at hc
  repeat' split at hc
  all_goals first
   | (cases hc; try cases hr; done)
   | (obtain ⟨q, hq, hc⟩ := ofO_some hc; cases hc; cases hr)
 | pick c x y => simp only [compOp] at hc; repeat' split at hc
                 all_goals (cases hc; try cases hr)
 | box t x => simp only [compOp] at hc; repeat' split at hc
              all_goals (cases hc; try cases hr)
 | buildSlice t n ps => simp only [compOp] at hc; repeat' split at hc
                        all_goals (cases hc; try cases hr)
 | makeSlice t x y => simp only [compOp] at hc; repeat' split at hc
                      all_goals (cases hc; try cases hr)
 | unOp op t x => simp only [compOp] at hc; repeat' split at hc
                  all_goals (cases hc; try cases hr)
 | makeInterface t x => simp only [compOp] at hc; repeat' split at hc
                        all_goals (cases hc; try cases hr)
 | fieldAddr s x i => simp only [compOp] at hc; repeat' split at hc
                      all_goals (cases hc; try cases hr)
 | field s x i => simp only [compOp] at hc; repeat' split at hc
                  all_goals (cases hc; try cases hr)
 | index t x y => simp only [compOp] at hc; repeat' split at hc
                  all_goals (cases hc; try cases hr)
 | store t x y => simp only [compOp] at hc; repeat' split at hc
                  all_goals (cases hc; try cases hr)
 | mapUpdate t x y z => simp only [compOp] at hc; repeat' split at hc
                        all_goals (cases hc; try cases hr)
 | insert t x y z => simp only [compOp] at hc; repeat' split at hc
                     all_goals (cases hc; try cases hr)
 | mapEntry t x y => simp only [compOp] at hc; repeat' split at hc
                     all_goals (cases hc; try cases hr)
 | entryStore t x y z => simp only [compOp] at hc; repeat' split at hc
                         all_goals (cases hc; try cases hr)
 | range t x => simp only [compOp] at hc; repeat' split at hc
                all_goals (cases hc; try cases hr)
 | _ => simp [compOp] at hc
end Go.Vm

namespace Go.Vm
open Go Go.RowKit
noncomputable def AOpd.val (o : AOpd) (e : Env) (loc : List AV) : Option AV :=
 match o with
 | .p q => loc.reverse[q]?
 | .v t => e.get t
 | .c a => some a
def AOpd.in (o : AOpd) (here : Nat) : Prop := match o with | .p q => q < here | _ => True
theorem rel_ev {o : AOpd} {e : Env} {loc : List AV} (h : o.in loc.length) : (o.rel loc.length).ev e loc = o.val e loc := by
 cases o with
 | p q =>
  have hq : q < loc.length := h
  show (Opd.l (loc.length - 1 - q)).ev e loc = loc.reverse[q]?
  rw [ev_l, List.getElem?_reverse hq]
 | v t => rfl
 | c a => rfl
theorem val_cons {o : AOpd} {e : Env} {loc : List AV} (h : o.in loc.length) (v : AV) : o.val e (v :: loc) = o.val e loc := by
 cases o with
 | p q =>
  have hq : q < loc.length := h
  show (v :: loc).reverse[q]? = loc.reverse[q]?
  rw [List.reverse_cons, List.getElem?_append_left (by simpa using hq)]
 | v t => rfl
 | c a => rfl
theorem val_top (e : Env) (loc : List AV) (v : AV) : (AOpd.p loc.length).val e (v :: loc) = some v := by
 show (v :: loc).reverse[loc.length]? = some v
 rw [List.reverse_cons, List.getElem?_append_right (by simp)]
 simp
theorem AOpd.in_succ {o : AOpd} {n : Nat} (h : o.in n) : o.in (n + 1) := by
 cases o with
 | p q => exact Nat.lt_succ_of_lt h
 | v t => trivial
 | c a => trivial
theorem knownAt_mem {kn : List Known} {i : Nat} {k : Known} (h : knownAt kn i = some k) : k ∈ kn ∧ k.i = i := by
 induction kn with
 | nil => cases h
 | cons a l ih =>
  simp only [knownAt] at h
  split at h
  ·rename_i hb; cases h; exact ⟨List.mem_cons_self, Nat.eq_of_beq_eq_true hb⟩
  ·obtain ⟨h1, h2⟩ := ih h; exact ⟨List.mem_cons_of_mem _ h1, h2⟩
theorem knownAt_cons_ne {kn : List Known} {i : Nat} {k : Known} (h : k.i ≠ i) : knownAt (k :: kn) i = knownAt kn i := by
 simp only [knownAt]
 split
 ·rename_i hb; exact absurd (Nat.eq_of_beq_eq_true hb) h
 ·rfl
theorem knownAt_cons_eq {kn : List Known} {i : Nat} {k : Known} (h : k.i = i) : knownAt (k :: kn) i = some k := by
 subst h
 simp only [knownAt, Nat.beq_refl]
end Go.Vm

namespace Go.Vm
open Go Go.RowKit
def Truth (ng : Nat) (ex : List Nat) (ops : List Oper) (anc : Array Nat) (kn : List Known) (e : Env) (loc : List AV) (i : Nat) (g : Option (Nat × Bool)) (o : Operand) (x : AV) : Prop :=
 match o with
 | .const v => valAV v = some x
 | .global b => x = .ptr b 0 ∧ b < ng
 | .func f => x = .func f [] []
 | .tmp t => match writer ops t 0 with
  | none => ∃ q, slot ex t 0 = some q ∧ e.get q = some x
  | some j => ((anc.getD i 0).testBit j = true ∧ ∃ k, knownAt kn j = some k ∧ k.o.val e loc = some x ∧ (k.g = none ∨ k.g = g)) ∨
   ((anc.getD i 0).testBit j = false ∧ ((anc.getD j 0).testBit i = true ∨ i = j) ∧ ∃ q, slot ex t 0 = some q ∧ e.get q = some x)
theorem sameG_eq {a b : Option (Nat × Bool)} (h : sameG a b = true) : a = b := by
 cases a with
 | none => cases b with | none => rfl | some _ => cases h
 | some p => cases b with
  | none => cases h
  | some q =>
   obtain ⟨i, x⟩ := p; obtain ⟨j, y⟩ := q
   simp only [sameG, Bool.and_eq_true] at h
   have := Nat.eq_of_beq_eq_true h.1
   have h2 : x = y := by simpa using h.2
   rw [this, h2]
theorem varOf_some {ex : List Nat} {t : Nat} {q : Opd} (h : varOf ex t = some q) : ∃ s, slot ex t 0 = some s ∧ q = .v s := by
 unfold varOf at h
 split at h
 ·rename_i s hs; cases h; exact ⟨s, hs, rfl⟩
 ·cases h
theorem opdOf_truth {ng : Nat} {ex : List Nat} {ops : List Oper} {anc : Array Nat} {kn : List Known} {e : Env} {loc : List AV} {i : Nat} {g : Option (Nat × Bool)} {o : Operand} {q : Opd} {x : AV} (hin : ∀ k ∈ kn, k.o.in loc.length)
 (h : opdOf ng ex ops anc kn loc.length i g o = some q) (hx : q.ev e loc = some x) : Truth ng ex ops anc kn e loc i g o x := by
 cases o with
 | const v =>
  simp only [opdOf] at h
  split at h
  ·rename_i a ha; cases h; rw [ev_c] at hx; cases hx; exact ha
  ·cases h
 | global b =>
  simp only [opdOf] at h
  split at h
  ·rename_i hb
   cases h; rw [ev_c] at hx; cases hx; exact ⟨rfl, Nat.le_of_ble_eq_true hb⟩
  ·cases h
 | func f => simp only [opdOf, Option.some.injEq] at h; subst h; rw [ev_c] at hx; cases hx; rfl
 | tmp t =>
  simp only [opdOf] at h
  simp only [Truth]
  split at h
  ·rename_i hw
   rw [hw]
   obtain ⟨s, hs, rfl⟩ := varOf_some h
   exact ⟨s, hs, hx⟩
  ·rename_i j hw
   rw [hw]
   split at h
   ·rename_i hb
    left
    refine ⟨hb, ?_⟩
    split at h
    ·rename_i k hk
     have hkin := hin k (knownAt_mem hk).1
     split at h
     ·rename_i hg
      cases h
      rw [rel_ev hkin] at hx
      exact ⟨k, hk, hx, .inl hg⟩
     ·rename_i g' hg
      split at h
      ·rename_i hs
       cases h
       rw [rel_ev hkin] at hx
       exact ⟨k, hk, hx, .inr (by rw [hg]; exact sameG_eq hs)⟩
      ·cases h
    ·cases h
   ·rename_i hb
    right
    split at h
    ·rename_i hc
     obtain ⟨s, hs, rfl⟩ := varOf_some h
     rw [Bool.or_eq_true] at hc
     exact ⟨hb, hc.imp id Nat.eq_of_beq_eq_true, s, hs, hx⟩
    ·cases h
theorem Truth.cons {ng : Nat} {ex : List Nat} {ops : List Oper} {anc : Array Nat} {kn : List Known} {e : Env} {loc : List AV} {i : Nat} {g : Option (Nat × Bool)} {o : Operand} {x : AV} (h : Truth ng ex ops anc kn e loc i g o x) {k : Known} {loc' : List AV} (hk : knownAt kn k.i = none)
 (hv : ∀ k ∈ kn, ∀ y, k.o.val e loc = some y → k.o.val e loc' = some y) : Truth ng ex ops anc (k :: kn) e loc' i g o x := by
 cases o with
 | const v => exact h
 | global b => exact h
 | func f => exact h
 | tmp t =>
  simp only [Truth] at h ⊢
  split at h
  ·exact h
  ·rename_i j hw
   rcases h with ⟨hb, k', h1, h2, h3⟩ | h
   ·left
    refine ⟨hb, k', ?_, hv k' (knownAt_mem h1).1 x h2, h3⟩
    rw [knownAt_cons_ne (by intro e'; rw [e', h1] at hk; cases hk)]
    exact h1
   ·exact .inr h
end Go.Vm

namespace Go.Vm
open Go Go.RowKit
variable {P : Program} {mid : String → Option Nat} {ρ ρ' : Rho} {ex : List Nat} {ops : List Oper} {anc : Array Nat} {kn : List Known} {e : Env} {loc : List AV} {D : List Nat} {a : Act}
theorem writer_get : ∀ {ops : List Oper} {t n j : Nat}, writer ops t n = some j → n ≤ j ∧ ∃ o, ops[j - n]? = some o ∧ o.dst = some t
 | [], t, n, j, h => by cases h
 | o :: l, t, n, j, h => by
  simp only [writer] at h
  split at h
  ·rename_i hd
   cases h
   refine ⟨Nat.le_refl _, o, by simp, ?_⟩
   unfold dstIs at hd
   split at hd
   ·rename_i u hu; rw [hu, Nat.eq_of_beq_eq_true hd]
   ·cases hd
  ·obtain ⟨h1, o', h2, h3⟩ := writer_get h
   refine ⟨by omega, o', ?_, h3⟩
   rw [show j - n = (j - (n + 1)) + 1 by omega]
   simpa using h2
noncomputable def wantA (kn : List Known) (e : Env) (loc : List AV) (g : Option (Nat × Bool)) : Bool :=
 match g with
 | none => true
 | some (j, b) => match knownAt kn j with
  | some k => match k.o.val e loc with
   | some (.bool c) => c == b
   | _ => false
  | none => false
structure DoneInv (ρ : Rho) (ex : List Nat) (ops : List Oper) (anc : Array Nat) (kn : List Known) (e : Env) (loc : List AV) (D : List Nat) (a : Act) : Prop where
 closed : ∀ i ∈ D, ∀ j, (anc.getD i 0).testBit j = true → j ∈ D
 known : ∀ i ∈ D, ∃ k, knownAt kn i = some k
 done : ∀ i ∈ D, ∀ k o t, knownAt kn i = some k → ops[i]? = some o → o.dst = some t → (k.g = none ∨ wantA kn e loc k.g = true) → ∀ x, k.o.val e loc = some x → VR ρ x (a.eval (.tmp t))
 vars : ∀ q t, slot ex t 0 = some q → (∀ j, writer ops t 0 = some j → j ∉ D) → ∀ x, e.get q = some x → VR ρ x (a.eval (.tmp t))
def GlobR (P : Program) (ρ : Rho) : Prop := ∀ g, g < P.globals.size + 1 → ∃ room, ρ g = some ⟨g, 0, room⟩
theorem truth_vr (hg : GlobR P ρ) (h : DoneInv ρ ex ops anc kn e loc D a) {i : Nat} {g : Option (Nat × Bool)} {o : Operand} {x : AV} (hi : i ∉ D) (ha : ∀ j, (anc.getD i 0).testBit j = true → j ∈ D) (hw : wantA kn e loc g = true)
 (ht : Truth P.globals.size ex ops anc kn e loc i g o x) : VR ρ x (a.eval o) := by
 cases o with
 | const v => exact valAV_sound ρ v x ht
 | global b =>
  simp only [Truth] at ht
  obtain ⟨rfl, hok⟩ := ht
  obtain ⟨room, hr⟩ := hg b (Nat.lt_succ_of_lt hok)
  exact .ptr b 0 ⟨b, 0, room⟩ hr
 | func f =>
  simp only [Truth] at ht
  subst ht
  exact .func f [] [] [] [] .nil .nil
 | tmp t =>
  simp only [Truth] at ht
  split at ht
  ·rename_i hwr
   obtain ⟨q, hs, hx⟩ := ht
   exact h.vars q t hs (fun j hj => by rw [hwr] at hj; cases hj) x hx
  ·rename_i j hwr
   rcases ht with ⟨hb, k, h1, h2, h3⟩ | ⟨hb, hc, q, hs, hx⟩
   ·obtain ⟨_, o, ho, hd⟩ := writer_get hwr
    exact h.done j (ha j hb) k o t h1 (by simpa using ho) hd (h3.imp id fun e => by rw [e]; exact hw) x h2
   ·refine h.vars q t hs (fun j' hj' hD => ?_) x hx
    rw [hwr] at hj'; cases hj'
    rcases hc with hc | rfl
    ·exact hi (h.closed j hD i hc)
    ·exact hi hD
end Go.Vm

namespace Go.Vm
open Go Go.RowKit
variable {P : Program} {mid : String → Option Nat} {ρ ρ' : Rho} {ex : List Nat} {anc : Array Nat} {kn : List Known} {e : Env} {loc : List AV} {D : List Nat} {a : Act}
def GuardIs (anc : Array Nat) (kn : List Known) (here i : Nat) (o : Oper) (g : Option (Nat × Bool)) : Prop :=
 match o.guard with
 | none => g = none
 | some (j, b) => ∃ q, knownAt kn j = some ⟨j, .p q, none⟩ ∧ (anc.getD i 0).testBit j = true ∧ g = some (here - 1 - q, b)
theorem guardOf_is {here i : Nat} {o : Oper} {g : Option (Nat × Bool)} (h : guardOf anc kn here i o = some g) : GuardIs anc kn here i o g := by
 unfold guardOf at h
 unfold GuardIs
 split at h
 ·rename_i hg; rw [hg]; cases h; rfl
 ·rename_i j b hg
  rw [hg]
  split at h
  ·rename_i i' q hk
   split at h
   ·rename_i hb
    cases h
    have := (knownAt_mem hk).2
    simp only at this
    subst this
    exact ⟨q, hk, hb, rfl⟩
   ·cases h
  ·cases h
theorem want_none (loc : List AV) : want none loc = true := rfl
theorem want_some (i : Nat) (b : Bool) (loc : List AV) : want (some (i, b)) loc = match loc[i]? with | some (.bool c) => c == b | _ => false := by
 show (Option.rec false (fun a => onBool a (fun c => ite' c b (ite' b false true)) false) (nth loc i) : Bool) = _
 rw [nth_eq]
 cases loc[i]? with
 | none => rfl
 | some a =>
  cases a <;> first
   | rfl
   | (rename_i c; cases c <;> cases b <;> rfl)
theorem want_A {i : Nat} {o : Oper} {g : Option (Nat × Bool)} (hin : ∀ k ∈ kn, k.o.in loc.length) (h : GuardIs anc kn loc.length i o g) : want g loc = wantA kn e loc o.guard := by
 unfold GuardIs at h
 split at h
 ·rename_i hg; subst h; rw [hg]; rfl
 ·rename_i j b hg
  obtain ⟨q, hk, _, rfl⟩ := h
  rw [hg, want_some]
  have hq : q < loc.length := hin _ (knownAt_mem hk).1
  simp only [wantA, hk, AOpd.val]
  rw [List.getElem?_reverse hq]
  all_goals (generalize loc[loc.length - 1 - q]? = z; rcases z with _ | a <;> first | rfl | (cases a <;> rfl))
theorem want_M {ops : Array Oper} {i : Nat} {o : Oper} {g : Option (Nat × Bool)} {here : Nat} (hin : ∀ k ∈ kn, k.o.in loc.length) (hD : DoneInv ρ ex ops.toList anc kn e loc D a) (ha : ∀ j, (anc.getD i 0).testBit j = true → j ∈ D) (h : GuardIs anc kn here i o g) (hdst : ∀ j b, o.guard = some (j, b) → ∃ oj t, ops[j]? = some oj ∧ oj.dst = some t ∧ t < a.tmps.size) :
 Region.wanted o (yielded ops a.tmps) = wantA kn e loc o.guard := by
 unfold GuardIs at h
 unfold Region.wanted
 split at h
 ·rename_i hg; rw [hg]; rfl
 ·rename_i j b hg
  obtain ⟨q, hk, hb, _⟩ := h
  obtain ⟨oj, t, ho, hd, ht⟩ := hdst j b hg
  rw [hg]
  have hq : q < loc.length := hin _ (knownAt_mem hk).1
  obtain ⟨x, hx⟩ : ∃ x, (AOpd.p q).val e loc = some x := ⟨loc.reverse[q]'(by simpa using hq), by simp [AOpd.val, hq]⟩
  have hr := hD.done j (ha j hb) _ oj t hk (by simpa using ho) hd (.inl rfl) x hx
  simp only [wantA, hk, hx]
  have hev : a.tmps[t]? = some (a.eval (.tmp t)) := by
   simp [Act.eval, Array.getD, ht]
  simp only [yielded, ho, Option.bind_some, hd, hev]
  generalize a.eval (.tmp t) = v at hr
  cases hr <;> first
   | rfl
   | (rename_i c; cases c <;> cases b <;> rfl)
end Go.Vm

namespace Go.Vm
open Go Go.RowKit
abbrev Post := Exit → Act → List Frame → World → Prop
def Kind (dfr : Bool) (b : Frame) : Prop := dfr = true → b.kind = .deferred ∧ b.roundOf = none
def Goes (P : Program) (m : Machine) (b : Frame) (k : List Item) (Q : Post) : Prop := ∃ e a cs w, Q e a cs w ∧ Arrives P m b k cs e a w
def GoC (P : Program) (dfr : Bool) (c : Go.Code) (Q : Post) (a : Act) (cs : List Frame) (w : World) : Prop :=
 ∀ (b : Frame) (k : List Item), Kind dfr b → Goes P (lone (b.at a (.code c :: k)) cs w) b k Q
def GoO (P : Program) (dfr : Bool) (ops : Array Oper) (Q : Post) (l : List Nat) (a : Act) (cs : List Frame) (w : World) : Prop :=
 ∀ (b : Frame) (k : List Item), Kind dfr b → Goes P (lone (b.at a (.inRegion ops l :: k)) cs w) b k Q
theorem Goes.of_steps {P : Program} {m m1 : Machine} {b : Frame} {k : List Item} {Q : Post} (h : Steps P m m1) (g : Goes P m1 b k Q) : Goes P m b k Q :=
 let ⟨e, a, cs, w, q, r⟩ := g; ⟨e, a, cs, w, q, .of_steps h r⟩
section ops
variable {P : Program} {dfr : Bool} {ops : Array Oper} {Q : Post} {i : Nat} {rest : List Nat} {o : Oper} {a : Act} {cs : List Frame} {w w' : World}
theorem o_nil (h : Q .normal a cs w) : GoO P dfr ops Q [] a cs w := fun _ _ _ => ⟨.normal, a, cs, w, h, .one step_region_end⟩
theorem o_skip (hw : ((ops[i]?).map (Region.wanted · (yielded ops a.tmps))).getD false = false) (h : GoO P dfr ops Q rest (a.put ((ops[i]?).bind (·.dst)) undef) cs w) : GoO P dfr ops Q (i :: rest) a cs w :=
 fun b k hb => (h b k hb).of_steps (.one (step_op_skip hw))
theorem fin_at (ho : ops[i]? = some o) (b : Frame) (k : List Item) (v : Value) : (b.at a (.inRegion ops (i :: rest) :: k)).finish v = b.at (a.put o.dst v) (.inRegion ops rest :: k) := by
 rw [Frame.finish_at, ho]; rfl
theorem o_value {n : Next} {v : Value} (ho : ops[i]? = some o) (hw : Region.wanted o (yielded ops a.tmps) = true) (hr : (execOp a.eval o).run P w = .ok n w') (hn : n = .value v ∨ (n = .skip ∧ v = undef))
 (h : GoO P dfr ops Q rest (a.put o.dst v) cs w') : GoO P dfr ops Q (i :: rest) a cs w := by
 intro b k hb
 refine (h b k hb).of_steps (.one (step_lone_go ?_))
 rw [stepG_op ho hw, ← fin_at ho]
 rcases hn with rfl | ⟨rfl, rfl⟩ <;> simp [stepG.apply, hr]
theorem o_defer {d : Deferred} (ho : ops[i]? = some o) (hw : Region.wanted o (yielded ops a.tmps) = true) (hr : (execOp a.eval o).run P w = .ok (.defer d) w')
 (h : GoO P dfr ops Q rest ({ a with defers := d :: a.defers }.put o.dst undef) cs w') : GoO P dfr ops Q (i :: rest) a cs w := by
 intro b k hb
 refine (h b k hb).of_steps (.one (step_lone_go ?_))
 have : ({ b.at a (.inRegion ops (i :: rest) :: k) with defers := d :: a.defers } : Frame).finish undef =
  b.at ({ a with defers := d :: a.defers }.put o.dst undef) (.inRegion ops rest :: k) := by
  have := Frame.finish_at b { a with defers := d :: a.defers } ops i rest k undef
  rw [ho] at this; exact this
 rw [stepG_op ho hw]
 simp only [stepG.apply, Sem.runT_eq, hr, GStep.bare_after]
 exact congrArg (fun fr => GStep.go { frame := fr, callers := cs, status := .running, dying := none } w') this
theorem o_panic {v : Value} (ho : ops[i]? = some o) (hw : Region.wanted o (yielded ops a.tmps) = true) (hr : (execOp a.eval o).run P w = .halt (.panic v) w')
 (h : Q (.panic [{ v, recovered := false }]) a cs w') : GoO P dfr ops Q (i :: rest) a cs w := by
 intro b k hb
 refine ⟨_, a, cs, w', h, .inRegion ops (i :: rest) :: k, .one (step_lone_go ?_)⟩
 rw [stepG_op ho hw, ← Frame.raise_at]; simp [stepG.apply, hr]
theorem o_enter {f : FuncId} {args : Array Value} {R : Ending → World → Prop} (ho : ops[i]? = some o) (hw : Region.wanted o (yielded ops a.tmps) = true) (hr : (execOp a.eval o).run P w = .ok (.enter f args) w')
 (hc : Calls P f args w' R) (h1 : ∀ v w2, R (.returned v) w2 → GoO P dfr ops Q rest (a.put o.dst v) cs w2) (h2 : ∀ ch w2, R (.panicked ch) w2 → Q (.panic ch) a cs w2) (h3 : ∀ w2, ¬ R .outgrown w2) :
 GoO P dfr ops Q (i :: rest) a cs w := by
 intro b k hb
 obtain ⟨e, w2, fr, hR, hsteps, _, hleave⟩ := hc (b.at a (.inRegion ops (i :: rest) :: k) :: cs)
 have henter : step P (lone (b.at a (.inRegion ops (i :: rest) :: k)) cs w) =
  .next (lone (Frame.enter P f args .normal) (b.at a (.inRegion ops (i :: rest) :: k) :: cs) w') :=
  step_lone_go (by rw [stepG_op ho hw]; simp [stepG.apply, hr, Frame.at])
 cases e with
 | returned v =>
  refine (h1 v w2 hR b k hb).of_steps (.head henter (hsteps.trans (.one ?_)))
  rw [← fin_at ho]; exact step_leave_returned hleave
 | panicked ch =>
  refine ⟨.panic ch, a, cs, w2, h2 ch w2 hR, .inRegion ops (i :: rest) :: k, .head henter (hsteps.trans (.one ?_))⟩
  rw [← Frame.raise_at]; exact step_leave_panicked hleave
 | outgrown => exact (h3 w2 hR).elim
theorem o_recover (ho : ops[i]? = some o) (hw : Region.wanted o (yielded ops a.tmps) = true) (hr : (execOp a.eval o).run P w = .ok .recover w') (hd : dfr = true)
 {v : Value} {cs' : List Frame} (hc : recoverD cs = some (v, cs') ∨ (recoverD cs = none ∧ v = .nilIface ∧ cs' = cs)) (h : GoO P dfr ops Q rest (a.put o.dst v) cs' w') : GoO P dfr ops Q (i :: rest) a cs w := by
 intro b k hb
 obtain ⟨hk, hro⟩ := hb hd
 have hk' : (b.at a (.inRegion ops (i :: rest) :: k)).kind = .deferred := hk
 have htr := tryRecover_deferred hk' cs
 refine (h b k hb).of_steps (.one (step_lone_go ?_))
 rw [stepG_op ho hw, ← fin_at ho]
 simp only [Frame.at] at htr ⊢
 rcases hc with hc | ⟨hc, rfl, rfl⟩ <;> simp [stepG.apply, hr, htr, hc]
end ops
section code
variable {P : Program} {dfr : Bool} {Q : Post} {a : Act} {cs : List Frame} {w : World}
def thenP (next : Act → List Frame → World → Prop) (Q : Post) : Post
 | .normal, a, cs, w => next a cs w
 | e, a, cs, w => Q e a cs w
def blockP (id : Nat) (Q : Post) : Post
 | .exit id', a, cs, w => if id' = id then Q .normal a cs w else Q (.exit id') a cs w
 | e, a, cs, w => Q e a cs w
theorem c_mono {c : Go.Code} {Q' : Post} (h : GoC P dfr c Q a cs w) (hq : ∀ e a cs w, Q e a cs w → Q' e a cs w) : GoC P dfr c Q' a cs w :=
 fun b k hb => let ⟨e, a', cs', w', q, r⟩ := h b k hb; ⟨e, a', cs', w', hq _ _ _ _ q, r⟩
theorem c_skip (h : Q .normal a cs w) : GoC P dfr .skip Q a cs w := fun _ _ _ => ⟨.normal, a, cs, w, h, .one step_skip⟩
theorem c_label {l : Nat} (h : Q .normal a cs w) : GoC P dfr (.label l) Q a cs w := fun _ _ _ => ⟨.normal, a, cs, w, h, .one step_label⟩
theorem c_exit {id : Nat} (h : Q (.exit id) a cs w) : GoC P dfr (.exit id) Q a cs w := fun _ _ _ => ⟨.exit id, a, cs, w, h, fun _ hk => .one (step_exit hk)⟩
theorem c_ret (h : Q .ret a cs w) : GoC P dfr .ret Q a cs w := fun _ _ _ => ⟨.ret, a, cs, w, h, _, .one step_ret⟩
theorem c_cond {c : Operand} {x y : Go.Code} {t : Bool} (hc : a.eval c = .bool t) (h : GoC P dfr (if t then x else y) Q a cs w) : GoC P dfr (.cond c x y) Q a cs w :=
 fun b k hb => (h b k hb).of_steps (.one (step_cond hc))
theorem c_seq {x y : Go.Code} (h : GoC P dfr x (thenP (GoC P dfr y Q) Q) a cs w) : GoC P dfr (.seq x y) Q a cs w := by
 intro b k hb
 obtain ⟨e, a₁, cs₁, w₁, hq, harr⟩ := h b (.code y :: k) hb
 cases e with
 | normal => exact (hq b k hb).of_steps (.head step_seq harr)
 | exit id => exact ⟨_, a₁, cs₁, w₁, hq, .of_steps (.one step_seq) (.pass (x := .code y) rfl (fun _ _ => .inl (by simp)) harr)⟩
 | goto l => exact ⟨_, a₁, cs₁, w₁, hq, .of_steps (.one step_seq) (.pass (x := .code y) rfl (fun _ _ => .inl (by simp)) harr)⟩
 | ret => exact ⟨_, a₁, cs₁, w₁, hq, .of_steps (.one step_seq) (.pass (x := .code y) rfl (fun _ _ => .inl (by simp)) harr)⟩
 | panic ch => exact ⟨_, a₁, cs₁, w₁, hq, .of_steps (.one step_seq) (.pass (x := .code y) rfl (fun _ _ => .inl (by simp)) harr)⟩
 | outgrown => exact ⟨_, a₁, cs₁, w₁, hq, .of_steps (.one step_seq) (.pass (x := .code y) rfl (fun _ _ => .inl (by simp)) harr)⟩
theorem c_block {id : Nat} {c : Go.Code} (h : GoC P dfr c (blockP id Q) a cs w) : GoC P dfr (.block id c) Q a cs w := by
 intro b k hb
 obtain ⟨e, a₁, cs₁, w₁, hq, harr⟩ := h b (.inBlock id :: k) hb
 cases e with
 | normal => exact ⟨.normal, a₁, cs₁, w₁, hq, .head step_block (Steps.trans harr (.one step_inBlock))⟩
 | exit id' =>
  by_cases hid : id' = id
  ·simp only [blockP, hid, if_true] at hq
   exact ⟨.normal, a₁, cs₁, w₁, hq, .head step_block (harr k (by simp [exitTo, hid]))⟩
  ·simp only [blockP, hid, if_false] at hq
   refine ⟨.exit id', a₁, cs₁, w₁, hq, fun k' hk => .head step_block (harr k' ?_)⟩
   have : (id == id') = false := by simp; exact fun h => hid h.symm
   simp [exitTo, this, hk]
 | goto l => exact ⟨_, a₁, cs₁, w₁, hq, fun k' hk => .head step_block (harr k' (by simp [gotoIn, hk]))⟩
 | ret => exact ⟨_, a₁, cs₁, w₁, hq, .of_steps (.one step_block) harr⟩
 | panic ch => exact ⟨_, a₁, cs₁, w₁, hq, .of_steps (.one step_block) harr⟩
 | outgrown => exact ⟨_, a₁, cs₁, w₁, hq, .of_steps (b := b) (k := k) (cs := cs₁) (e := .outgrown) (.one step_block) harr⟩
def GoI (P : Program) (dfr : Bool) (c : Go.Code) (Q : Post) (a : Act) (cs : List Frame) (w : World) : Prop :=
 ∀ (b : Frame) (k : List Item), Kind dfr b → Goes P (lone (b.at a (.code c :: .inLoop c :: k)) cs w) b k Q
theorem c_loop {c : Go.Code} (h : GoI P dfr c Q a cs w) : GoC P dfr (.loop c) Q a cs w := fun b k hb => (h b k hb).of_steps (.one step_loop)
theorem c_round {c : Go.Code} (h : GoC P dfr c (thenP (GoI P dfr c Q) Q) a cs w) : GoI P dfr c Q a cs w := by
 intro b k hb
 obtain ⟨e, a₁, cs₁, w₁, hq, harr⟩ := h b (.inLoop c :: k) hb
 cases e with
 | normal => exact (hq b k hb).of_steps (Steps.trans harr (.one step_inLoop))
 | exit id => exact ⟨_, a₁, cs₁, w₁, hq, .pass (x := .inLoop c) rfl (fun _ _ => .inl (by simp)) harr⟩
 | goto l => exact ⟨_, a₁, cs₁, w₁, hq, .pass (x := .inLoop c) rfl (fun _ _ => .inl (by simp)) harr⟩
 | ret => exact ⟨_, a₁, cs₁, w₁, hq, .pass (x := .inLoop c) rfl (fun _ _ => .inl (by simp)) harr⟩
 | panic ch => exact ⟨_, a₁, cs₁, w₁, hq, .pass (x := .inLoop c) rfl (fun _ _ => .inl (by simp)) harr⟩
 | outgrown => exact ⟨_, a₁, cs₁, w₁, hq, .pass (x := .inLoop c) rfl (fun _ _ => .inl (by simp)) harr⟩
theorem step_scope {b : Frame} {c : Go.Code} {k : List Item} : step P (lone (b.at a (.code (.scope c) :: k)) cs w) = .next (lone (b.at a (.code c :: .inScope c :: k)) cs w) :=
 step_lone_go (by simp [stepG, stepG.exec, Frame.at])
theorem step_inScope {b : Frame} {c : Go.Code} {k : List Item} : step P (lone (b.at a (.inScope c :: k)) cs w) = .next (lone (b.at a k) cs w) :=
 step_lone_go (by simp [stepG, stepG.exec, Frame.at])
theorem c_scope {c : Go.Code} (h : GoC P dfr c Q a cs w) (hg : ∀ l a cs w, ¬ Q (.goto l) a cs w) : GoC P dfr (.scope c) Q a cs w := by
 intro b k hb
 obtain ⟨e, a₁, cs₁, w₁, hq, harr⟩ := h b (.inScope c :: k) hb
 cases e with
 | normal => exact ⟨.normal, a₁, cs₁, w₁, hq, .head step_scope (Steps.trans harr (.one step_inScope))⟩
 | exit id => exact ⟨_, a₁, cs₁, w₁, hq, fun k' hk => .head step_scope (harr k' (by simpa [exitTo] using hk))⟩
 | goto l => exact (hg _ _ _ _ hq).elim
 | ret => exact ⟨_, a₁, cs₁, w₁, hq, .of_steps (.one step_scope) harr⟩
 | panic ch => exact ⟨_, a₁, cs₁, w₁, hq, .of_steps (.one step_scope) harr⟩
 | outgrown => exact ⟨_, a₁, cs₁, w₁, hq, .of_steps (b := b) (k := k) (cs := cs₁) (e := .outgrown) (.one step_scope) harr⟩
theorem c_region {id : Nat} {ops : Array Oper} (h : GoO P dfr ops Q (List.range ops.size) a cs w) : GoC P dfr (.region id ops false) Q a cs w :=
 fun b k hb => (h b k hb).of_steps (.one step_region)
theorem c_draw {id : Nat} {ops : Array Oper} (h : ∀ t, GoO P dfr ops Q (Region.schedule (P.follows .mixedOrders) ops t) a cs { w with drawn := w.drawn + 1 }) : GoC P dfr (.region id ops true) Q a cs w :=
 fun b k hb => (h _ b k hb).of_steps (.one step_region_draw)
end code
end Go.Vm

namespace Go.Vm
open Go
variable {e : Env} {loc : List AV} {m m' : Mem}
def Mem.sub (m m' : Mem) : Prop := ∀ b B, m.bl.get b = some B → m'.bl.get b = some B
theorem apart_mono (hm : Mem.sub m m') {b c : Nat} (h : apart m b c = true) : apart m' b c = true := by
 unfold apart at h
 split at h
 ·rename_i k s r z l j s' r' z' l' h1 h2
  have e1 := hm _ _ h1
  have e2 := hm _ _ h2
  unfold apart
  rw [e1, e2]
  exact h
 ·cases h
theorem eqP_mono (hm : Mem.sub m m') {k : PK} {x y : AV} {r : Bool} (h : eqP m k x y = some r) : eqP m' k x y = some r := by
 cases k with
 | bool => exact h
 | int => exact h
 | str => exact h
 | ptr =>
  simp only [eqP] at h ⊢
  split at h
  ·exact h
  ·exact h
  ·exact h
  ·rename_i b o c p
   cases hb : Nat.beq b c with
   | true => rw [hb] at h; exact h
   | false =>
    rw [hb] at h
    obtain ⟨h1, h2⟩ := ite'_some h
    show ite' (apart m' b c) (some false) none = some r
    rw [apart_mono hm h1]; exact h2
  ·cases h
theorem eqPs_mono (hm : Mem.sub m m') : ∀ {ks : List PK} {a b : List AV} {r : Bool}, eqPs m ks a b = some r → eqPs m' ks a b = some r
 | [], a, b, r, h => by cases a <;> cases b <;> first | exact h | cases h
 | k :: ks, a, b, r, h => by
  cases a with
  | nil => cases h
  | cons x a => cases b with
   | nil => cases h
   | cons y b =>
    simp only [eqPs] at h ⊢
    split at h
    ·rename_i h1; rw [eqP_mono hm h1]; exact eqPs_mono hm h
    ·rename_i h1; rw [eqP_mono hm h1]; exact h
    ·cases h
theorem eqD_mono (hm : Mem.sub m m') {d : EqD} {x y : AV} {r : Bool} (h : eqD m d x y = some r) : eqD m' d x y = some r := by
 cases d with
 | p k => exact eqP_mono hm h
 | slc => exact h
 | mp => exact h
 | fn => exact h
 | ifc tab =>
  simp only [eqD] at h ⊢
  split at h
  ·exact h
  ·exact h
  ·exact h
  ·rename_i t a u b
   cases hb : Nat.beq t u with
   | false => rw [hb] at h; exact h
   | true =>
    rw [hb] at h
    simp only at h ⊢
    cases hk : pkAt t tab with
    | none => rw [hk] at h; cases h
    | some k => rw [hk] at h; exact eqP_mono hm h
  ·cases h
 | seq ks =>
  simp only [eqD] at h ⊢
  obtain ⟨l1, rfl, h2⟩ := onAgg_some h
  obtain ⟨l2, rfl, h3⟩ := onAgg_some h2
  exact eqPs_mono hm h3
theorem findE_mono (hm : Mem.sub m m') {d : EqD} {k : AV} : ∀ {es : List AEnt} {r : Option AEnt}, findE m d k es = some r → findE m' d k es = some r
 | [], r, h => h
 | e :: es, r, h => by
  simp only [findE] at h ⊢
  split at h
  ·rename_i h1; rw [eqD_mono hm h1]; exact h
  ·rename_i h1; rw [eqD_mono hm h1]; exact findE_mono hm h
  ·cases h
theorem mapOf_mono (hm : Mem.sub m m') {x : AV} {es : List AEnt} (h : mapOf m x = some es) : mapOf m' x = some es := by
 unfold mapOf at h ⊢
 split at h
 ·exact h
 ·rename_i b
  split at h
  ·rename_i es' c h1; rw [hm _ _ h1]; exact h
  ·cases h
 ·cases h
theorem g1_mono (hm : Mem.sub m m') {f : G1} {x r : AV} (h : f.run m x = some r) : f.run m' x = some r := by
 cases f with
 | ld =>
  change rLd m x = some r at h
  change rLd m' x = some r
  unfold rLd at h ⊢
  obtain ⟨b, o, rfl, h⟩ := onPtr_some h
  obtain ⟨B, hB, h⟩ := onO_some h
  rw [onPtr_ptr, hm _ _ hB]; exact h
 | ldn n =>
  change rLdn n m x = some r at h
  change rLdn n m' x = some r
  unfold rLdn at h ⊢
  obtain ⟨b, o, rfl, h⟩ := onPtr_some h
  obtain ⟨B, hB, h⟩ := onO_some h
  rw [onPtr_ptr, hm _ _ hB]; exact h
 | lenM =>
  change rLenM m x = some r at h
  change rLenM m' x = some r
  unfold rLenM at h ⊢
  obtain ⟨es, hes, h⟩ := onO_some h
  rw [mapOf_mono hm hes]; exact h
 | b2s =>
  change rB2s m x = some r at h
  change rB2s m' x = some r
  unfold rB2s at h ⊢
  split at h
  ·rename_i b o sz n lb ex
   cases n with
   | zero => exact h
   | succ n =>
    cases hB : m.bl.get b with
    | none => rw [hB] at h; simp at h
    | some B => rw [hm _ _ hB]; rw [hB] at h; exact h
  ·exact h
  ·cases h
 | vw l =>
  change rVw l m x = some r at h
  change rVw l m' x = some r
  unfold rVw at h ⊢
  split at h
  ·exact h
  ·rename_i b o
   cases hB : m.bl.get b with
   | none => rw [hB] at h; simp at h
   | some B => rw [hm _ _ hB]; rw [hB] at h; exact h
  ·cases h
 | up =>
  change rUp m x = some r at h
  change rUp m' x = some r
  unfold rUp at h ⊢
  split at h
  ·exact h
  ·rename_i b o
   cases hB : m.bl.get b with
   | none => rw [hB] at h; simp at h
   | some B => rw [hm _ _ hB]; rw [hB] at h; exact h
  ·cases h
theorem g2_mono (hm : Mem.sub m m') {f : G2} {x y r : AV} (h : f.run m x y = some r) : f.run m' x y = some r := by
 cases f with
 | lku kd ok z =>
  change rLku kd ok z m x y = some r at h
  change rLku kd ok z m' x y = some r
  unfold rLku at h ⊢
  cases hk : keyOk kd y with
  | false => simp only [hk] at h; cases h
  | true =>
   simp only [hk] at h ⊢
   cases hes : mapOf m x with
   | none => simp only [hes] at h; cases h
   | some es =>
    simp only [hes] at h
    simp only [mapOf_mono hm hes]
    cases ho : findE m kd y es with
    | none => simp only [ho] at h; cases h
    | some o =>
     simp only [ho] at h
     simp only [findE_mono hm ho]
     exact h
 | eqv kd ng g =>
  change rEqv kd ng g m x y = some r at h
  change rEqv kd ng g m' x y = some r
  by_cases hc : g = true ∧ x = .nili ∧ y = .nili
  ·obtain ⟨rfl, rfl, rfl⟩ := hc; exact h
  ·have form : ∀ m : Mem, rEqv kd ng g m x y = (match eqD m kd x y with | some b => some (.bool (b != ng)) | none => none) := by
    intro m
    unfold rEqv
    split
    ·exact absurd ⟨rfl, rfl, rfl⟩ hc
    ·rfl
   rw [form] at h ⊢
   cases hb : eqD m kd x y with
   | none => rw [hb] at h; cases h
   | some b => rw [eqD_mono hm hb]; rw [hb] at h; exact h
theorem gn_mono (hm : Mem.sub m m') {f : GN} {xs : List AV} {r : AV} (h : f.run m xs = some r) : f.run m' xs = some r := by
 cases f with
 | sla n sz lo hi mx =>
  change rSla n sz lo hi mx m xs = some r at h
  change rSla n sz lo hi mx m' xs = some r
  unfold rSla at h ⊢
  split at h
  ·rename_i b off vs
   cases hB : m.bl.get b with
   | none => rw [hB] at h; split at h <;> first | (rename_i hh; cases hh) | cases h
   | some B => rw [hm _ _ hB]; rw [hB] at h; exact h
  ·cases h
theorem pure_mono (hm : Mem.sub m m') {c : LOp} {r : AV} (h : c.pure e loc m = some r) : c.pure e loc m' = some r := by
 cases c with
 | g1 f x =>
  change onO (x.ev e loc) (f.run m) none = some r at h
  change onO (x.ev e loc) (f.run m') none = some r
  obtain ⟨a, ha, h⟩ := onO_some h
  rw [ha]; exact g1_mono hm h
 | g2 f x y =>
  change onO (x.ev e loc) (fun a => onO (y.ev e loc) (f.run m a) none) none = some r at h
  change onO (x.ev e loc) (fun a => onO (y.ev e loc) (f.run m' a) none) none = some r
  obtain ⟨a, ha, h⟩ := onO_some h
  obtain ⟨b, hb, h⟩ := onO_some h
  rw [ha, onO_s, hb]; exact g2_mono hm h
 | gn f xs =>
  change onO (evs e loc xs) (f.run m) none = some r at h
  change onO (evs e loc xs) (f.run m') none = some r
  obtain ⟨a, ha, h⟩ := onO_some h
  rw [ha]; exact gn_mono hm h
 | _ => exact h
end Go.Vm

namespace Go.Vm
open Go Go.RowKit
inductive DRs (ρ : Rho) : List ADef → List Deferred → Prop where
 | nil : DRs ρ [] []
 | cons (f : Nat) (l : List AV) (cap args : Array Value) (ds : List ADef) (Ds : List Deferred) (hv : VRs ρ l (args.toList ++ cap.toList)) (t : DRs ρ ds Ds) : DRs ρ (⟨f, l⟩ :: ds) ({ target := .fn (.func f) cap, args := args } :: Ds)
theorem DRs.mono {ρ ρ' : Rho} (hl : Rho.le ρ ρ') {d : List ADef} {D : List Deferred} (h : DRs ρ d D) : DRs ρ' d D := by
 induction h with
 | nil => exact .nil
 | cons f l cap args ds Ds hv t ih => exact .cons f l cap args ds Ds (hv.mono hl) ih
def IsI (v : AV) : Prop := ∃ t x, v = .iface t x
def UR (ρ : Rho) (pn : List PE) (u : FrameMode) : Prop :=
 (pn = [] ∧ u = .returning) ∨ ∃ v v' r, pn = [⟨v, r⟩] ∧ IsI v ∧ VR ρ v v' ∧ u = .panicking [⟨v', r, false⟩]
def PnR (dfr : Bool) (c0 : Frame) (cs0 : List Frame) (ρ : Rho) (pn : List PE) (cs : List Frame) : Prop :=
 match dfr with
 | true => ∃ u, cs = { c0 with mode := u } :: cs0 ∧ UR ρ pn u
 | false => cs = cs0 ∧ pn = nrm
theorem UR.mono {ρ ρ' : Rho} (hl : Rho.le ρ ρ') {pn : List PE} {u : FrameMode} (h : UR ρ pn u) : UR ρ' pn u := by
 rcases h with h | ⟨v, v', r, h1, h2, h3, h4⟩
 ·exact .inl h
 ·exact .inr ⟨v, v', r, h1, h2, h3.mono hl, h4⟩
theorem PnR.mono {dfr : Bool} {c0 : Frame} {cs0 cs : List Frame} {ρ ρ' : Rho} (hl : Rho.le ρ ρ') {pn : List PE} (h : PnR dfr c0 cs0 ρ pn cs) : PnR dfr c0 cs0 ρ' pn cs := by
 cases dfr with
 | true => obtain ⟨u, h1, h2⟩ := h; exact ⟨u, h1, h2.mono hl⟩
 | false => exact h
def Does (P : Program) (f : FuncId) (args : Array Value) (w : World) (R : Ending → World → Prop) : Prop :=
 ((callFunc f args).run P w = .ok (.enter f args) w ∧ Calls P f args w R) ∨ ∃ v w', (callFunc f args).run P w = .ok (.value v) w' ∧ R (.returned v) w'
def CEnd (ρ : Rho) (H0 : Nat) (m : Mem) (w : World) (r : CRes) (e : Ending) (w' : World) : Prop :=
 match r with
 | .ret v m' _ => ∃ v' ρ', e = .returned v' ∧ VR ρ' v v' ∧ WR ρ' H0 m' w' ∧ Stp H0 ρ m w ρ' m' w'
 | .pan v m' => ∃ v' ρ', e = .panicked [{ v := v', recovered := false }] ∧ IsI v ∧ VR ρ' v v' ∧ WR ρ' H0 m' w' ∧ Stp H0 ρ m w ρ' m' w'
 | .stuck _ => False
def CfOk (P : Program) (H0 : Nat) (W0 : World) (cf : CallF) : Prop :=
 ∀ f l m ρ w (args : Array Value), WR ρ H0 m w → GlobR P ρ → Below H0 W0 w → VRs ρ l args.toList → (∀ y, cf f l m nrm ≠ .stuck y) → Does P f args w (CEnd ρ H0 m w (cf f l m nrm))
def MtOk (P : Program) (mid : String → Option Nat) (mt : List (Nat × Nat × Nat)) : Prop :=
 ∀ t n f name v w, mid name = some n → methAt t n mt = some f → (method (P.types.size + Made.depth) t v name).run P w = .ok (f, v) w
section
variable (P : Program) (mid : String → Option Nat) (ex : List Nat) (ops : List Oper) (anc : Array Nat) (e : Env)
def GuardKn (anc : Array Nat) (kn : List Known) (loc : List AV) (i : Nat) (o : Oper) : Prop :=
 match o.guard with
 | none => True
 | some (j, _) => ∃ q, knownAt kn j = some ⟨j, .p q, none⟩ ∧ (anc.getD i 0).testBit j = true ∧ q < loc.length
def Truths (ng : Nat) (ex : List Nat) (ops : List Oper) (anc : Array Nat) (kn : List Known) (e : Env) (loc : List AV) (i : Nat) (g : Option (Nat × Bool)) (σ : Operand → Option Opd) (loc' : List AV) : Prop :=
 ∀ x q v, σ x = some q → q.ev e loc' = some v → Truth ng ex ops anc kn e loc i g x v
inductive Pend (P : Program) (mid : String → Option Nat) (ρ : Rho) (ex : List Nat) (ops : List Oper) (anc : Array Nat) (kn : List Known) (e : Env) (loc : List AV) (m : Mem) (ph : Nat → Option Nat) (i : Nat) (o : Oper) (k : Known) : Prop where
 | alias (x : Operand) (hm : isMove o.op = some x) (hg : k.g = o.guard) (ht : ∀ v, k.o.val e loc = some v → Truth P.globals.size ex ops anc kn e loc i o.guard x v)
 | off (hw : wantA kn e loc o.guard = false) (hv : k.o.val e loc = some undefA)
 | light (σ : Operand → Option Opd) (c : LOp) (loc' : List AV) (v : AV) (hw : wantA kn e loc o.guard = true) (hc : compOp P mid o.op σ = some (.l c)) (ht : Truths P.globals.size ex ops anc kn e loc i o.guard σ loc') (hp : c.pure e loc' m = some v) (hv : k.o.val e loc = some v)
 | al (σ : Operand → Option Opd) (f : FA) (xs : List Opd) (loc' l : List AV) (B : ABlk) (g : Nat → AV) (b : Nat) (hw : wantA kn e loc o.guard = true) (hc : compOp P mid o.op σ = some (.l (.al f xs))) (ht : Truths P.globals.size ex ops anc kn e loc i o.guard σ loc')
  (hl : evs e loc' xs = some l) (hr : f.run l = some (B, g)) (hv : k.o.val e loc = some (g b)) (hb : m.bl.get b = some B) (hρ : ρ b = none) (hi : ph i = some b)
def Again (P : Program) (mid : String → Option Nat) (ex : List Nat) (ops : List Oper) (anc : Array Nat) (kn : List Known) (e : Env) (loc : List AV) (m' : Mem) (i : Nat) : Prop :=
 ∀ j k o, knownAt kn j = some k → (anc.getD i 0).testBit j = false → ops[j]? = some o → readsOf P o.op = false ∨ wantA kn e loc o.guard = false ∨
  ∃ σ c loc' v, compOp P mid o.op σ = some (.l c) ∧ Truths P.globals.size ex ops anc kn e loc j o.guard σ loc' ∧ c.pure e loc' m' = some v ∧ k.o.val e loc = some v
structure Ext (e : Env) (loc loc' : List AV) : Prop where
 len : loc.length ≤ loc'.length
 val : ∀ o : AOpd, o.in loc.length → o.val e loc' = o.val e loc
structure Turn (ops : List Oper) (anc : Array Nat) (kn : List Known) (loc : List AV) (i : Nat) (o : Oper) : Prop where
 op : ops[i]? = some o
 new : knownAt kn i = none
 ahd : ∀ j, (anc.getD i 0).testBit j = true → ∃ k, knownAt kn j = some k
 guard : GuardKn anc kn loc i o
structure HStep (P : Program) (mid : String → Option Nat) (mt : List (Nat × Nat × Nat)) (cf : CallF) (ex : List Nat) (ops : List Oper) (anc : Array Nat) (e : Env) (kn : List Known) (loc : List AV) (d : List ADef) (m : Mem) (pn : List PE) (i : Nat) (o : Oper) (r : HRes) : Prop where
 turn : Turn ops anc kn loc i o
 want : wantA kn e loc o.guard = true
 run : ∃ σ ho loc', compOp P mid o.op σ = some (.h ho) ∧ Truths P.globals.size ex ops anc kn e loc i o.guard σ loc' ∧ ho.run mt cf e loc' d m pn = r
structure HNext (P : Program) (mid : String → Option Nat) (ex : List Nat) (ops : List Oper) (anc : Array Nat) (e : Env) (kn : List Known) (loc loc' : List AV) (m' : Mem) (i : Nat) (k : Known) (v : AV) : Prop where
 ki : k.i = i
 kg : k.g = none
 kin : k.o.in loc'.length
 val : k.o.val e loc' = some v
 ext : Ext e loc loc'
 again : Again P mid ex ops anc kn e loc m' i
inductive QStep (P : Program) (mid : String → Option Nat) (ex : List Nat) (ops : List Oper) (anc : Array Nat) (e : Env) (kn : List Known) (loc loc' : List AV) (m m' : Mem) (i : Nat) (o : Oper) (k : Known) : Prop where
 | alias (x : Operand) (hm : isMove o.op = some x) (hg : k.g = o.guard) (hl : loc' = loc) (hm' : m' = m) (ht : ∀ v, k.o.val e loc = some v → Truth P.globals.size ex ops anc kn e loc i o.guard x v)
 | off (hw : wantA kn e loc o.guard = false) (hm' : m' = m) (hg : k.g = none) (hv : k.o.val e loc' = some undefA)
 | light (σ : Operand → Option Opd) (c : LOp) (v : AV) (hw : wantA kn e loc o.guard = true) (hm' : m' = m) (hg : k.g = none) (hc : compOp P mid o.op σ = some (.l c)) (ht : Truths P.globals.size ex ops anc kn e loc i o.guard σ loc) (hp : c.pure e loc m = some v) (hv : k.o.val e loc' = some v)
 | al (σ : Operand → Option Opd) (f : FA) (xs : List Opd) (l : List AV) (B : ABlk) (g : Nat → AV) (hw : wantA kn e loc o.guard = true) (hm' : m' = newB m B) (hg : k.g = none) (hc : compOp P mid o.op σ = some (.l (.al f xs)))
  (ht : Truths P.globals.size ex ops anc kn e loc i o.guard σ loc) (hl : evs e loc xs = some l) (hr : f.run l = some (B, g)) (hv : k.o.val e loc' = some (g m.nx))
def MemEq (m m' : Mem) : Prop := m.nx = m'.nx ∧ (∀ b, m.bl.get b = m'.bl.get b) ∧ ∀ b, m.cl.get b = m'.cl.get b
inductive Ahead (P : Program) (mid : String → Option Nat) (mt : List (Nat × Nat × Nat)) (cf : CallF) (ex : List Nat) (ops : List Oper) (anc : Array Nat) (e : Env) (knF : List Known) (hF : Nat) (RR : RRes) : List Known → List AV → List ADef → Mem → List PE → Prop where
 | nil (kn : List Known) (loc : List AV) (d : List ADef) (m m' : Mem) (pn : List PE) (hr : RR = .done loc d m' pn) (hm : MemEq m m') (hk : ∀ i, knownAt kn i = knownAt knF i) (hl : loc.length = hF) (ha : ∀ i, i < ops.length → ∃ k, knownAt kn i = some k) :
  Ahead P mid mt cf ex ops anc e knF hF RR kn loc d m pn
 | quiet (i : Nat) (o : Oper) (k : Known) (kn : List Known) (loc loc' : List AV) (d : List ADef) (m m' : Mem) (pn : List PE) (ht : Turn ops anc kn loc i o) (hki : k.i = i) (hkin : k.o.in loc'.length) (hx : Ext e loc loc')
  (hq : QStep P mid ex ops anc e kn loc loc' m m' i o k) (t : Ahead P mid mt cf ex ops anc e knF hF RR (k :: kn) loc' d m' pn) : Ahead P mid mt cf ex ops anc e knF hF RR kn loc d m pn
 | heavy (i : Nat) (o : Oper) (k : Known) (kn : List Known) (loc loc' : List AV) (d d' : List ADef) (m m' : Mem) (pn pn' : List PE) (v : AV) (hs : HStep P mid mt cf ex ops anc e kn loc d m pn i o (.val v d' m' pn')) (hn : HNext P mid ex ops anc e kn loc loc' m' i k v)
  (ho : ∀ t, t < ops.length → t ≠ i → knownAt kn t = none → (anc.getD t 0).testBit i = true) (t : Ahead P mid mt cf ex ops anc e knF hF RR (k :: kn) loc' d' m' pn') : Ahead P mid mt cf ex ops anc e knF hF RR kn loc d m pn
 | pan (i : Nat) (o : Oper) (kn : List Known) (loc : List AV) (d d' : List ADef) (m m' : Mem) (pn : List PE) (v : AV) (hs : HStep P mid mt cf ex ops anc e kn loc d m pn i o (.pan v d' m')) (hr : RR = .pan v d' m')
  (ho : ∀ t, t < ops.length → t ≠ i → knownAt kn t = none → (anc.getD t 0).testBit i = true) : Ahead P mid mt cf ex ops anc e knF hF RR kn loc d m pn
 | two (i j : Nat) (oi oj : Oper) (ki kj : Known) (kn : List Known) (loc li lj : List AV) (d di dj : List ADef) (m mi mj : Mem) (pn pi pj : List PE) (vi vj : AV)
  (hi : HStep P mid mt cf ex ops anc e kn loc d m pn i oi (.val vi di mi pi)) (ni : HNext P mid ex ops anc e kn loc li mi i ki vi)
  (hj : HStep P mid mt cf ex ops anc e kn loc d m pn j oj (.val vj dj mj pj)) (nj : HNext P mid ex ops anc e kn loc lj mj j kj vj)
  (ho : ∀ t, t < ops.length → knownAt kn t = none → t = i ∨ t = j)
  (ti : Ahead P mid mt cf ex ops anc e knF hF RR (ki :: kn) li di mi pi) (tj : Ahead P mid mt cf ex ops anc e knF hF RR (kj :: kn) lj dj mj pj) : Ahead P mid mt cf ex ops anc e knF hF RR kn loc d m pn
end
end Go.Vm

namespace Go.Vm
open Go Go.RowKit
variable {P : Program} {mid : String → Option Nat} {mt : List (Nat × Nat × Nat)} {cf : CallF} {dfr : Bool} {c0 : Frame} {cs0 : List Frame} {ρ ρ' : Rho} {H0 nt : Nat} {ex : List Nat} {opsA : Array Oper} {ops : List Oper} {anc : Array Nat} {kn : List Known} {e : Env} {loc loc' : List AV} {d d' : List ADef} {m m' : Mem} {pn pn' : List PE}
 {D : List Nat} {a : Act} {cs : List Frame} {w w' : World} {ph : Nat → Option Nat} {ρ0 : Rho} {m0 : Mem} {w0 : World}
def GKn (kn : List Known) (loc : List AV) : Prop := ∀ j k, knownAt kn j = some k → ∀ i b, k.g = some (i, b) → ∃ q, knownAt kn i = some ⟨i, .p q, none⟩ ∧ q < loc.length
structure Inv (P : Program) (mid : String → Option Nat) (dfr : Bool) (c0 : Frame) (cs0 : List Frame) (H0 nt : Nat) (ex : List Nat) (ops : List Oper) (anc : Array Nat) (e : Env) (ρ0 : Rho) (m0 : Mem) (w0 : World)
 (kn : List Known) (loc : List AV) (d : List ADef) (m : Mem) (pn : List PE) (D : List Nat) (ph : Nat → Option Nat) (ρ : Rho) (a : Act) (cs : List Frame) (w : World) : Prop where
 kin : ∀ k ∈ kn, k.o.in loc.length
 dn : DoneInv ρ ex ops anc kn e loc D a
 wr : WR ρ H0 m w
 glob : GlobR P ρ
 ds : DRs ρ d a.defers
 pn : PnR dfr c0 cs0 ρ pn cs
 size : a.tmps.size = nt
 pend : ∀ i k, knownAt kn i = some k → i ∉ D → ∃ o, ops[i]? = some o ∧ GuardKn anc kn loc i o ∧ Pend P mid ρ ex ops anc kn e loc m ph i o k
 phl : ∀ i b, ph i = some b → m0.nx ≤ b ∧ b < m.nx
 phi : ∀ i j b, ph i = some b → ph j = some b → i = j
 stp : Stp H0 ρ0 m0 w0 ρ m w
 gk : GKn kn loc
structure Static (nt : Nat) (ops : List Oper) : Prop where
 dst : ∀ (i : Nat) (o : Oper) (t : Nat), ops[i]? = some o → o.dst = some t → t < nt ∧ writer ops t 0 = some i
 grd : ∀ (i : Nat) (o : Oper) (j : Nat) (b : Bool), ops[i]? = some o → o.guard = some (j, b) → ∃ (oj : Oper) (t : Nat), ops[j]? = some oj ∧ oj.dst = some t
theorem eval_put_ne {dst : Option Nat} {v : Value} {t : Nat} (h : dst ≠ some t) : (a.put dst v).eval (.tmp t) = a.eval (.tmp t) := by
 cases dst with
 | none => rfl
 | some u =>
  have : u ≠ t := fun e => h (by rw [e])
  simp [Act.put, Act.eval, Array.getElem?_setIfInBounds_ne this]
theorem eval_put_eq {v : Value} {t : Nat} (h : t < a.tmps.size) : (a.put (some t) v).eval (.tmp t) = v := by
 simp [Act.put, Act.eval, h]
theorem put_size (dst : Option Nat) (v : Value) : (a.put dst v).tmps.size = a.tmps.size := by
 cases dst <;> simp [Act.put]
theorem put_defers' (dst : Option Nat) (v : Value) : (a.put dst v).defers = a.defers := by
 cases dst <;> rfl
theorem DoneInv.mono (h : DoneInv ρ ex ops anc kn e loc D a) (hl : Rho.le ρ ρ') : DoneInv ρ' ex ops anc kn e loc D a :=
 ⟨h.closed, h.known, fun i hi k o t h1 h2 h3 h4 x hx => (h.done i hi k o t h1 h2 h3 h4 x hx).mono hl, fun q t h1 h2 x hx => (h.vars q t h1 h2 x hx).mono hl⟩
theorem DoneInv.put (hs : Static nt ops) (hsz : a.tmps.size = nt) (h : DoneInv ρ ex ops anc kn e loc D a) {i : Nat} {o : Oper} {k : Known} {v : Value} (ho : ops[i]? = some o) (hi : i ∉ D) (ha : ∀ j, (anc.getD i 0).testBit j = true → j ∈ D)
 (hk : knownAt kn i = some k) (hv : (k.g = none ∨ wantA kn e loc k.g = true) → ∀ x, k.o.val e loc = some x → VR ρ x v) : DoneInv ρ ex ops anc kn e loc (i :: D) (a.put o.dst v) := by
 refine ⟨?_, ?_, ?_, ?_⟩
 ·intro j hj b hb
  rcases List.mem_cons.1 hj with rfl | hj
  ·exact List.mem_cons_of_mem _ (ha b hb)
  ·exact List.mem_cons_of_mem _ (h.closed j hj b hb)
 ·intro j hj
  rcases List.mem_cons.1 hj with rfl | hj
  ·exact ⟨k, hk⟩
  ·exact h.known j hj
 ·intro j hj k' o' t h1 h2 h3 h4 x hx
  rcases List.mem_cons.1 hj with rfl | hj
  ·rw [hk] at h1; cases h1
   rw [ho] at h2; cases h2
   rw [h3, eval_put_eq (by rw [hsz]; exact (hs.dst _ _ _ ho h3).1)]
   exact hv h4 x hx
  ·have hne : o.dst ≠ some t := by
    intro e'
    have h5 := (hs.dst _ _ _ ho e').2
    have h6 := (hs.dst _ _ _ h2 h3).2
    rw [h5] at h6; cases h6
    exact hi hj
   rw [eval_put_ne hne]
   exact h.done j hj k' o' t h1 h2 h3 h4 x hx
 ·intro q t hq hw x hx
  have hne : o.dst ≠ some t := by
   intro e'
   exact hw i (hs.dst _ _ _ ho e').2 List.mem_cons_self
  rw [eval_put_ne hne]
  exact h.vars q t hq (fun j hj hD => hw j hj (List.mem_cons_of_mem _ hD)) x hx
theorem wantA_none : wantA kn e loc none = true := rfl
theorem guard_same {ops : Array Oper} {i : Nat} {o : Oper} (hs : Static nt ops.toList) (hsz : a.tmps.size = nt) (hin : ∀ k ∈ kn, k.o.in loc.length) (hD : DoneInv ρ ex ops.toList anc kn e loc D a) (ha : ∀ j, (anc.getD i 0).testBit j = true → j ∈ D) (hg : GuardKn anc kn loc i o) (ho : ops[i]? = some o) : Region.wanted o (yielded ops a.tmps) = wantA kn e loc o.guard := by
 have hgi : ∃ g, GuardIs anc kn loc.length i o g := by
  unfold GuardKn at hg
  unfold GuardIs
  split at hg
  ·rename_i h; (try rw [h]); exact ⟨none, rfl⟩
  ·rename_i j b h
   try rw [h]
   obtain ⟨q, h1, h2, h3⟩ := hg
   exact ⟨_, q, h1, h2, rfl⟩
 obtain ⟨g, hgi⟩ := hgi
 refine want_M hin hD ha hgi ?_
 intro j b hj
 obtain ⟨oj, t, h1, h2⟩ := hs.grd i o j b (by simpa using ho) hj
 refine ⟨oj, t, by simpa using h1, h2, ?_⟩
 rw [hsz]
 exact (hs.dst j oj t h1 h2).1
theorem Truths.opdR (hg : GlobR P ρ) (h : DoneInv ρ ex ops anc kn e loc D a) {i : Nat} {o : Oper} (hi : i ∉ D) (ha : ∀ j, (anc.getD i 0).testBit j = true → j ∈ D) (hw : wantA kn e loc o.guard = true) {σ : Operand → Option Opd} {loc1 : List AV}
 (ht : Truths P.globals.size ex ops anc kn e loc i o.guard σ loc1) : OpdR ρ e loc1 σ a.eval :=
 fun x q v h1 h2 => truth_vr hg h hi ha hw (ht x q v h1 h2)
end Go.Vm

namespace Go.Vm
open Go Go.RowKit
variable {P : Program} {mid : String → Option Nat} {mt : List (Nat × Nat × Nat)} {cf : CallF} {dfr : Bool} {c0 : Frame} {cs0 : List Frame} {ρ ρ' : Rho} {H0 nt : Nat} {ex : List Nat} {opsA : Array Oper} {ops : List Oper} {anc : Array Nat} {kn : List Known} {e : Env} {loc loc' : List AV} {d d' : List ADef} {m m' : Mem} {pn pn' : List PE}
 {D : List Nat} {a : Act} {cs : List Frame} {w w' : World} {ph : Nat → Option Nat} {ρ0 : Rho} {m0 : Mem} {w0 : World} {Q : Post} {rest : List Nat}
theorem Pend.rho {i : Nat} {o : Oper} {k : Known} (h : Pend P mid ρ ex ops anc kn e loc m ph i o k) (hρ : ∀ b, ph i = some b → ρ b = none → ρ' b = none) : Pend P mid ρ' ex ops anc kn e loc m ph i o k := by
 cases h with
 | alias x hm hg ht => exact .alias x hm hg ht
 | off hw hv => exact .off hw hv
 | light σ c loc' v hw hc ht hp hv => exact .light σ c loc' v hw hc ht hp hv
 | al σ f xs loc' l B g b hw hc ht hl hr hv hb hr' hi => exact .al σ f xs loc' l B g b hw hc ht hl hr hv hb (hρ b hi hr') hi
theorem isMove_exec {o : Oper} {x : Operand} (h : isMove o.op = some x) (ev : Operand → Value) : execOp ev o = pure (.value (ev x)) := by
 unfold isMove at h
 split at h
 ·rename_i y hy; cases h; simp only [execOp, hy]
 ·rename_i y hy; cases h; simp only [execOp, hy]
 ·cases h
theorem Inv.done (hs : Static nt ops) (inv : Inv P mid dfr c0 cs0 H0 nt ex ops anc e ρ0 m0 w0 kn loc d m pn D ph ρ a cs w) {i : Nat} {o : Oper} {k : Known} {v : Value} (ho : ops[i]? = some o) (hk : knownAt kn i = some k) (hi : i ∉ D) (ha : ∀ j, (anc.getD i 0).testBit j = true → j ∈ D)
 (hw : WR ρ' H0 m w') (hle : Rho.le ρ ρ') (hst : Stp H0 ρ0 m0 w0 ρ' m w') (hph : ∀ j b, j ≠ i → ph j = some b → ρ b = none → ρ' b = none) (hv : (k.g = none ∨ wantA kn e loc k.g = true) → ∀ x, k.o.val e loc = some x → VR ρ' x v) :
 Inv P mid dfr c0 cs0 H0 nt ex ops anc e ρ0 m0 w0 kn loc d m pn (i :: D) ph ρ' (a.put o.dst v) cs w' where
 kin := inv.kin
 dn := DoneInv.put hs inv.size (inv.dn.mono hle) ho hi ha hk hv
 wr := hw
 glob := fun g hg => let ⟨room, h⟩ := inv.glob g hg; ⟨room, hle _ _ h⟩
 ds := by rw [put_defers']; exact inv.ds.mono hle
 pn := inv.pn.mono hle
 size := by rw [put_size]; exact inv.size
 pend := by
  intro j k' hk' hj
  have hj' : j ∉ D := fun h => hj (List.mem_cons_of_mem _ h)
  have hne : j ≠ i := fun h => hj (h ▸ List.mem_cons_self)
  obtain ⟨o', h1, h2, h3⟩ := inv.pend j k' hk' hj'
  exact ⟨o', h1, h2, h3.rho fun b hb => hph j b hne hb⟩
 phl := inv.phl
 phi := inv.phi
 stp := hst
 gk := inv.gk
theorem pend_go (hs : Static nt opsA.toList) (inv : Inv P mid dfr c0 cs0 H0 nt ex opsA.toList anc e ρ0 m0 w0 kn loc d m pn D ph ρ a cs w) {i : Nat} {k : Known} (hk : knownAt kn i = some k) (hi : i ∉ D) (ha : ∀ j, (anc.getD i 0).testBit j = true → j ∈ D)
 (next : ∀ ρ' a' w', Inv P mid dfr c0 cs0 H0 nt ex opsA.toList anc e ρ0 m0 w0 kn loc d m pn (i :: D) ph ρ' a' cs w' → GoO P dfr opsA Q rest a' cs w') : GoO P dfr opsA Q (i :: rest) a cs w := by
 obtain ⟨o, ho, hgk, hp⟩ := inv.pend i k hk hi
 have ho' : opsA[i]? = some o := by simpa using ho
 have hwant := guard_same hs inv.size inv.kin inv.dn ha hgk ho'
 cases hw : wantA kn e loc o.guard with
 | false =>
  rw [hw] at hwant
  refine o_skip (by rw [ho']; simpa using hwant) ?_
  rw [ho']
  refine next ρ _ w (Inv.done hs inv ho hk hi ha inv.wr (Rho.le_refl _) inv.stp (fun _ _ _ _ h => h) ?_)
  intro hkg x hx
  cases hp with
  | alias y hm hg ht =>
   rw [hg] at hkg
   rcases hkg with hkg | hkg
   ·rw [hkg] at hw; cases hw
   ·rw [hkg] at hw; cases hw
  | off hw hv => rw [hv] at hx; cases hx; exact undef_vr
  | light σ c loc' v hw' => rw [hw] at hw'; cases hw'
  | al σ f xs loc' l B g b hw' => rw [hw] at hw'; cases hw'
 | true =>
  rw [hw] at hwant
  cases hp with
  | alias y hm hg ht =>
   refine o_value (v := a.eval y) ho' hwant (w' := w) (n := .value (a.eval y)) (by rw [isMove_exec hm]; rfl) (.inl rfl) ?_
   refine next ρ _ w (Inv.done hs inv ho hk hi ha inv.wr (Rho.le_refl _) inv.stp (fun _ _ _ _ h => h) ?_)
   intro hkg x hx
   exact truth_vr inv.glob inv.dn hi ha hw (ht x hx)
  | off hw' hv => rw [hw] at hw'; cases hw'
  | light σ c loc' v hw' hc ht hp hv =>
   obtain ⟨u, hu, hr⟩ := light_sound inv.wr (Truths.opdR inv.glob inv.dn hi ha hw ht) hc hp
   refine o_value (v := u) ho' hwant hu (.inl rfl) ?_
   refine next ρ _ w (Inv.done hs inv ho hk hi ha inv.wr (Rho.le_refl _) inv.stp (fun _ _ _ _ h => h) ?_)
   intro hkg x hx
   rw [hv] at hx; cases hx; exact hr
  | al σ f xs loc' l B g b hw' hc ht hl hr hv hb hρ hphi =>
   obtain ⟨u, w', L, hu, hW, hlow, hvr⟩ := al_sound inv.wr (Truths.opdR inv.glob inv.dn hi ha hw ht) hc hl hr hb hρ
   refine o_value (v := u) ho' hwant hu (.inl rfl) ?_
   have hle := ρ.le_put L hρ
   refine next (ρ.put b L) _ w' (Inv.done hs inv ho hk hi ha hW hle ⟨Rho.le_trans inv.stp.rho hle, inv.stp.nx, ?_, inv.stp.low.trans hlow⟩ ?_ ?_)
   ·intro b' hb' hn
    obtain ⟨h1, h2⟩ := inv.stp.pha b' hb' hn
    have := (inv.phl i b hphi).1
    exact ⟨by rw [Rho.put_ne ρ L (by omega)]; exact h1, h2⟩
   ·intro j b' hne hj hn
    have : b' ≠ b := fun e' => hne (inv.phi j i b' hj (by rw [hphi, e']))
    rw [Rho.put_ne ρ L this]; exact hn
   ·intro hkg x hx
    rw [hv] at hx; cases hx; exact hvr
end Go.Vm

namespace Go.Vm
open Go Go.RowKit
variable {P : Program} {mid : String → Option Nat} {mt : List (Nat × Nat × Nat)} {cf : CallF} {dfr : Bool} {c0 : Frame} {cs0 : List Frame} {ρ ρ' : Rho} {H0 nt : Nat} {ex : List Nat} {opsA : Array Oper} {ops : List Oper} {anc : Array Nat} {kn : List Known} {e : Env} {loc loc' : List AV} {d d' : List ADef} {m m' : Mem} {pn pn' : List PE}
 {D : List Nat} {a : Act} {cs : List Frame} {w w' : World} {ph : Nat → Option Nat} {ρ0 : Rho} {m0 : Mem} {w0 : World} {Q : Post} {rest : List Nat} {k : Known}
theorem wantA_ext (hk : knownAt kn k.i = none) (hx : Ext e loc loc') {g : Option (Nat × Bool)} (hg : ∀ i b, g = some (i, b) → ∃ q, knownAt kn i = some ⟨i, .p q, none⟩ ∧ q < loc.length) : wantA (k :: kn) e loc' g = wantA kn e loc g := by
 cases g with
 | none => rfl
 | some p =>
  obtain ⟨i, b⟩ := p
  obtain ⟨q, h1, h2⟩ := hg i b rfl
  have hne : k.i ≠ i := by intro h; rw [h, h1] at hk; cases hk
  simp only [wantA, knownAt_cons_ne hne, h1]
  rw [hx.val (.p q) h2]
theorem GuardKn.gk {i : Nat} {o : Oper} (h : GuardKn anc kn loc i o) : ∀ j b, o.guard = some (j, b) → ∃ q, knownAt kn j = some ⟨j, .p q, none⟩ ∧ q < loc.length := by
 intro j b hg
 unfold GuardKn at h
 rw [hg] at h
 obtain ⟨q, h1, _, h2⟩ := h
 exact ⟨q, h1, h2⟩
theorem GuardKn.ext (hk : knownAt kn k.i = none) (hx : Ext e loc loc') {i : Nat} {o : Oper} (h : GuardKn anc kn loc i o) : GuardKn anc (k :: kn) loc' i o := by
 unfold GuardKn at *
 split at h
 ·trivial
 ·rename_i j b hg
  obtain ⟨q, h1, h2, h3⟩ := h
  have hne : k.i ≠ j := by intro h; rw [h, h1] at hk; cases hk
  exact ⟨q, by rw [knownAt_cons_ne hne]; exact h1, h2, Nat.lt_of_lt_of_le h3 hx.len⟩
theorem kin_ext (hx : Ext e loc loc') (hin : ∀ k ∈ kn, k.o.in loc.length) (hkin : k.o.in loc'.length) : ∀ k' ∈ k :: kn, k'.o.in loc'.length := by
 intro k' hk'
 rcases List.mem_cons.1 hk' with rfl | hk'
 ·exact hkin
 ·have := hin k' hk'
  have hlen := hx.len
  cases hko : k'.o with
  | p q => rw [hko] at this; exact Nat.lt_of_lt_of_le this hx.len
  | v t => trivial
  | c a => trivial
theorem GKn.ext (hk : knownAt kn k.i = none) (hx : Ext e loc loc') (h : GKn kn loc) (hg : ∀ i b, k.g = some (i, b) → ∃ q, knownAt kn i = some ⟨i, .p q, none⟩ ∧ q < loc.length) : GKn (k :: kn) loc' := by
 have up : ∀ i, (∃ q, knownAt kn i = some ⟨i, .p q, none⟩ ∧ q < loc.length) → ∃ q, knownAt (k :: kn) i = some ⟨i, .p q, none⟩ ∧ q < loc'.length := by
  rintro i ⟨q, h1, h2⟩
  have hne : k.i ≠ i := by intro h; rw [h, h1] at hk; cases hk
  exact ⟨q, by rw [knownAt_cons_ne hne]; exact h1, Nat.lt_of_lt_of_le h2 hx.len⟩
 intro j k' hk' i b hkg
 by_cases hj : k.i = j
 ·rw [knownAt_cons_eq hj] at hk'; cases hk'
  exact up i (hg i b hkg)
 ·rw [knownAt_cons_ne hj] at hk'
  exact up i (h j k' hk' i b hkg)
theorem Truth.ext {ng : Nat} (hk : knownAt kn k.i = none) (hx : Ext e loc loc') (hin : ∀ k ∈ kn, k.o.in loc.length) {i : Nat} {g : Option (Nat × Bool)} {o : Operand} {x : AV} (h : Truth ng ex ops anc kn e loc i g o x) : Truth ng ex ops anc (k :: kn) e loc' i g o x :=
 h.cons hk fun k' hk' y hy => by rw [hx.val _ (hin k' hk')]; exact hy
theorem Truths.ext {ng : Nat} (hk : knownAt kn k.i = none) (hx : Ext e loc loc') (hin : ∀ k ∈ kn, k.o.in loc.length) {i : Nat} {g : Option (Nat × Bool)} {σ : Operand → Option Opd} {loc1 : List AV} (h : Truths ng ex ops anc kn e loc i g σ loc1) : Truths ng ex ops anc (k :: kn) e loc' i g σ loc1 :=
 fun x q v h1 h2 => (h x q v h1 h2).ext hk hx hin
theorem DoneInv.ext (hk : knownAt kn k.i = none) (hx : Ext e loc loc') (hin : ∀ k ∈ kn, k.o.in loc.length) (hgk : GKn kn loc) (h : DoneInv ρ ex ops anc kn e loc D a) : DoneInv ρ ex ops anc (k :: kn) e loc' D a := by
 have hne : ∀ j ∈ D, k.i ≠ j := fun j hj he => by
  obtain ⟨k', hk'⟩ := h.known j hj
  rw [← he, hk] at hk'; cases hk'
 refine ⟨h.closed, fun j hj => by rw [knownAt_cons_ne (hne j hj)]; exact h.known j hj, ?_, h.vars⟩
 intro j hj k' o t h1 h2 h3 h4 x hx'
 rw [knownAt_cons_ne (hne j hj)] at h1
 have hk' := (knownAt_mem h1).1
 rw [hx.val _ (hin k' hk')] at hx'
 refine h.done j hj k' o t h1 h2 h3 (h4.imp id fun hw => ?_) x hx'
 rw [wantA_ext hk hx (hgk j k' h1)] at hw
 exact hw
theorem Pend.ext (hk : knownAt kn k.i = none) (hx : Ext e loc loc') (hin : ∀ k ∈ kn, k.o.in loc.length) {i : Nat} {o : Oper} {k' : Known} (hk' : k' ∈ kn) (hg : GuardKn anc kn loc i o) (h : Pend P mid ρ ex ops anc kn e loc m ph i o k') : Pend P mid ρ ex ops anc (k :: kn) e loc' m ph i o k' := by
 have hv := hx.val _ (hin k' hk')
 have hwe := wantA_ext (e := e) hk hx hg.gk
 cases h with
 | alias x hm hg' ht => exact .alias x hm hg' fun v hv' => (ht v (by rw [← hv]; exact hv')).ext hk hx hin
 | off hw hv' => exact .off (by rw [hwe]; exact hw) (by rw [hv]; exact hv')
 | light σ c loc1 v hw hc ht hp hv' => exact .light σ c loc1 v (by rw [hwe]; exact hw) hc (ht.ext hk hx hin) hp (by rw [hv]; exact hv')
 | al σ f xs loc1 l B g b hw hc ht hl hr hv' hb hρ hi => exact .al σ f xs loc1 l B g b (by rw [hwe]; exact hw) hc (ht.ext hk hx hin) hl hr (by rw [hv]; exact hv') hb hρ hi
theorem Pend.sub (hm : Mem.sub m m') {i : Nat} {o : Oper} {k' : Known} (h : Pend P mid ρ ex ops anc kn e loc m ph i o k') : Pend P mid ρ ex ops anc kn e loc m' ph i o k' := by
 cases h with
 | alias x hm hg' ht => exact .alias x hm hg' ht
 | off hw hv' => exact .off hw hv'
 | light σ c loc1 v hw hc ht hp hv' => exact .light σ c loc1 v hw hc ht (pure_mono hm hp) hv'
 | al σ f xs loc1 l B g b hw hc ht hl hr hv' hb hρ hi => exact .al σ f xs loc1 l B g b hw hc ht hl hr hv' (hm _ _ hb) hρ hi
theorem Pend.phi {ph' : Nat → Option Nat} {i : Nat} {o : Oper} {k' : Known} (h : Pend P mid ρ ex ops anc kn e loc m ph i o k') (hp : ∀ b, ph i = some b → ph' i = some b) : Pend P mid ρ ex ops anc kn e loc m ph' i o k' := by
 cases h with
 | alias x hm hg' ht => exact .alias x hm hg' ht
 | off hw hv' => exact .off hw hv'
 | light σ c loc1 v hw hc ht hp hv' => exact .light σ c loc1 v hw hc ht hp hv'
 | al σ f xs loc1 l B g b hw hc ht hl hr hv' hb hρ hi => exact .al σ f xs loc1 l B g b hw hc ht hl hr hv' hb hρ (hp b hi)
theorem newB_sub (h : WR ρ H0 m w) (B : ABlk) : Mem.sub m (newB m B) := by
 intro b C hb
 have := h.live b C hb
 show (m.bl.set m.nx (some B)).get b = some C
 rw [T.get_set, if_neg (by omega)]; exact hb
theorem newB_at (m : Mem) (B : ABlk) : (newB m B).bl.get m.nx = some B := by
 show (m.bl.set m.nx (some B)).get m.nx = some B
 rw [T.get_set, if_pos rfl]
theorem Stp.newB (_ : WR ρ H0 m w) (h : Stp H0 ρ0 m0 w0 ρ m w) (B : ABlk) : Stp H0 ρ0 m0 w0 ρ (newB m B) w :=
 ⟨h.rho, Nat.le_succ_of_le h.nx, fun b hb hn => by
  obtain ⟨h1, h2⟩ := h.pha b hb hn
  refine ⟨h1, ?_⟩
  show (m.bl.set m.nx (some B)).get b = _
  have := h.nx
  rw [T.get_set, if_neg (by omega)]; exact h2, h.low⟩
theorem Inv.quiet (inv : Inv P mid dfr c0 cs0 H0 nt ex ops anc e ρ0 m0 w0 kn loc d m pn D ph ρ a cs w) {i : Nat} {o : Oper} (ht : Turn ops anc kn loc i o) (hki : k.i = i) (hkin : k.o.in loc'.length) (hx : Ext e loc loc') (hq : QStep P mid ex ops anc e kn loc loc' m m' i o k) :
 ∃ ph', Inv P mid dfr c0 cs0 H0 nt ex ops anc e ρ0 m0 w0 (k :: kn) loc' d m' pn D ph' ρ a cs w := by
 have hk : knownAt kn k.i = none := by rw [hki]; exact ht.new
 have hwe := wantA_ext (e := e) hk hx ht.guard.gk
 have hkg : ∀ j b, k.g = some (j, b) → ∃ q, knownAt kn j = some ⟨j, .p q, none⟩ ∧ q < loc.length := by
  cases hq with
  | alias x hm hg hl hm' h => intro j b hg'; rw [hg] at hg'; exact ht.guard.gk j b hg'
  | off hw hm' hg hv => intro j b hg'; rw [hg] at hg'; cases hg'
  | light σ c v hw hm' hg => intro j b hg'; rw [hg] at hg'; cases hg'
  | al σ f xs l B g hw hm' hg => intro j b hg'; rw [hg] at hg'; cases hg'
 have old : ∀ j k', knownAt (k :: kn) j = some k' → j ∉ D → k.i ≠ j → ∃ o, ops[j]? = some o ∧ GuardKn anc (k :: kn) loc' j o ∧ Pend P mid ρ ex ops anc (k :: kn) e loc' m ph j o k' := by
  intro j k' hk' hj hne
  rw [knownAt_cons_ne hne] at hk'
  obtain ⟨o', h1, h2, h3⟩ := inv.pend j k' hk' hj
  exact ⟨o', h1, h2.ext hk hx, h3.ext hk hx inv.kin (knownAt_mem hk').1 h2⟩
 have mk : ∀ (m' : Mem) (ph' : Nat → Option Nat), WR ρ H0 m' w → Mem.sub m m' → Stp H0 ρ0 m0 w0 ρ m' w → (∀ j, j ≠ i → ph' j = ph j) → (∀ j b, ph' j = some b → m0.nx ≤ b ∧ b < m'.nx) → (∀ j1 j2 b, ph' j1 = some b → ph' j2 = some b → j1 = j2) →
  Pend P mid ρ ex ops anc (k :: kn) e loc' m' ph' i o k → Inv P mid dfr c0 cs0 H0 nt ex ops anc e ρ0 m0 w0 (k :: kn) loc' d m' pn D ph' ρ a cs w := by
  intro m' ph' hW hsub hst hph hphl hphi hp
  exact { kin := kin_ext hx inv.kin hkin, dn := inv.dn.ext hk hx inv.kin inv.gk, wr := hW, glob := inv.glob, ds := inv.ds, pn := inv.pn, size := inv.size, phl := hphl, phi := hphi, stp := hst, gk := GKn.ext hk hx inv.gk hkg
          pend := by
           intro j k' hk' hj
           by_cases hne : k.i = j
           ·rw [knownAt_cons_eq hne] at hk'; cases hk'
            rw [hki] at hne; subst hne
            exact ⟨o, ht.op, ht.guard.ext hk hx, hp⟩
           ·obtain ⟨o', h1, h2, h3⟩ := old j k' hk' hj hne
            have hji : j ≠ i := fun h => hne (by rw [hki, h])
            exact ⟨o', h1, h2, (h3.sub hsub).phi fun b hb => by rw [hph j hji]; exact hb⟩ }
 cases hq with
 | alias x hm hg hl hm' h =>
  subst hm'
  exact ⟨ph, mk _ ph inv.wr (fun _ _ h => h) inv.stp (fun _ _ => rfl) inv.phl inv.phi (.alias x hm hg fun v hv => by subst hl; exact (h v hv).ext hk hx inv.kin)⟩
 | off hw hm' hg hv =>
  subst hm'
  exact ⟨ph, mk _ ph inv.wr (fun _ _ h => h) inv.stp (fun _ _ => rfl) inv.phl inv.phi (.off (by rw [hwe]; exact hw) hv)⟩
 | light σ c v hw hm' hg hc h hp hv =>
  subst hm'
  exact ⟨ph, mk _ ph inv.wr (fun _ _ h => h) inv.stp (fun _ _ => rfl) inv.phl inv.phi (.light σ c loc v (by rw [hwe]; exact hw) hc (h.ext hk hx inv.kin) hp hv)⟩
 | al σ f xs l B g hw hm' hg hc h hl hr hv =>
  subst hm'
  have hρ : ρ m.nx = none := by
   cases hh : ρ m.nx with
   | none => rfl
   | some L => exact absurd (inv.wr.dom _ _ hh).2 (Nat.lt_irrefl _)
  refine ⟨fun j => if j = i then some m.nx else ph j, mk (newB m B) _ (inv.wr.newB (al_plain hr)) (newB_sub inv.wr B) (inv.stp.newB inv.wr B) (fun j hj => by simp [hj]) ?_ ?_
   (.al σ f xs loc l B g m.nx (by rw [hwe]; exact hw) hc (h.ext hk hx inv.kin) hl hr hv (newB_at m B) hρ (by simp))⟩
  ·intro j b hb
   split at hb
   ·cases hb; exact ⟨inv.stp.nx, Nat.lt_succ_self _⟩
   ·have := inv.phl j b hb
    exact ⟨this.1, Nat.lt_succ_of_lt this.2⟩
  ·intro j1 j2 b h1 h2
   split at h1
   ·rename_i e1
    split at h2
    ·rename_i e2; rw [e1, e2]
    ·cases h1; exact absurd (inv.phl j2 _ h2).2 (Nat.lt_irrefl _)
   ·split at h2
    ·cases h2; exact absurd (inv.phl j1 _ h1).2 (Nat.lt_irrefl _)
    ·exact inv.phi j1 j2 b h1 h2
end Go.Vm

namespace Go.Vm
open Go Go.RowKit
variable {P : Program} {mid : String → Option Nat} {σ : Operand → Option Opd} {ρ : Rho} {e : Env} {loc : List AV} {ev : Operand → Value} {w : World}
inductive HvyOf (mid : String → Option Nat) (σ : Operand → Option Opd) : Op → HOp → Prop where
 | callf (cl : Call) (fo : Operand) (g : Nat) (xs : List Opd) (h1 : cl.callee = .value fo) (h2 : σ fo = some (.c (.func g [] []))) (h3 : opds σ cl.args.toList = some xs) : HvyOf mid σ (.call cl) (.callf g xs)
 | call (cl : Call) (fo : Operand) (q : Opd) (xs : List Opd) (h1 : cl.callee = .value fo) (h2 : σ fo = some q) (h3 : opds σ cl.args.toList = some xs) : HvyOf mid σ (.call cl) (.call q xs)
 | invoke (cl : Call) (r : Operand) (nm : String) (n : Nat) (q : Opd) (xs : List Opd) (h1 : cl.callee = .invoke r nm) (hn : mid nm = some n) (h2 : σ r = some q) (h3 : opds σ cl.args.toList = some xs) : HvyOf mid σ (.call cl) (.invoke n q xs)
 | recov (cl : Call) (h1 : cl.callee = .builtin .recover) : HvyOf mid σ (.call cl) .recov
 | bpanic (cl : Call) (q : Opd) (h1 : cl.callee = .builtin .panic) (h3 : opds σ cl.args.toList = some [q]) : HvyOf mid σ (.call cl) (.panic q)
 | defr (cl : Call) (fo : Operand) (q : Opd) (xs : List Opd) (h1 : cl.callee = .value fo) (h2 : σ fo = some q) (h3 : opds σ cl.args.toList = some xs) : HvyOf mid σ (.defer cl) (.defr q xs)
 | panic (x : Operand) (q : Opd) (h2 : σ x = some q) : HvyOf mid σ (.panic x) (.panic q)
theorem heavy_of {op : Op} {ho : HOp} (hc : compOp P mid op σ = some (.h ho)) (hne : ∀ f xs, ho ≠ .eff f xs) : HvyOf mid σ op ho := by
 cases op with
 | call cl =>
  simp only [compOp] at hc
  split at hc
  ·cases hc
  ·rename_i xs hq
   split at hc
   ·rename_i b hb
    unfold compBuiltin at hc
    repeat' split at hc
    all_goals first
     | (cases hc; done)
     | (cases hc; exact absurd rfl (hne _ _))
     | (cases hc; exact .recov cl hb)
     | (cases hc; exact .bpanic cl _ hb hq)
   ·rename_i r nm hcl
    split at hc
    ·rename_i n a h1 h2
     cases hc
     exact .invoke cl r nm n a xs hcl h1 h2 hq
    ·cases hc
   ·rename_i f hcl
    split at hc
    ·rename_i g h2
     cases hc
     exact .callf cl f g xs hcl h2 hq
    ·rename_i a h2
     cases hc
     exact .call cl f _ xs hcl h2 hq
    ·cases hc
 | defer cl =>
  simp only [compOp] at hc
  split at hc
  ·rename_i f xs hcl hq
   obtain ⟨a, h2, hc⟩ := ofO_some hc
   cases hc
   exact .defr cl f a xs hcl h2 hq
  ·cases hc
 | panic x =>
  simp only [compOp] at hc
  obtain ⟨q, hq, hc⟩ := ofO_some hc
  cases hc
  exact .panic x q hq
 | store t x y => simp only [compOp] at hc; repeat' split at hc
                  all_goals (cases hc; try exact absurd rfl (hne _ _))
 | mapUpdate t x y z => simp only [compOp] at hc; repeat' split at hc
                        all_goals (cases hc; try exact absurd rfl (hne _ _))
 | insert t x y z => simp only [compOp] at hc; repeat' split at hc
                     all_goals (cases hc; try exact absurd rfl (hne _ _))
 | mapEntry t x y => simp only [compOp] at hc; repeat' split at hc
                     all_goals (cases hc; try exact absurd rfl (hne _ _))
 | entryStore t x y z => simp only [compOp] at hc; repeat' split at hc
                         all_goals (cases hc; try exact absurd rfl (hne _ _))
 | range t x => simp only [compOp] at hc; repeat' split at hc
                all_goals (cases hc; try exact absurd rfl (hne _ _))
 | next x b =>
  cases b <;> simp only [compOp] at hc
  ·cases hc
  ·obtain ⟨q, hq, hc⟩ := ofO_some hc; cases hc; exact absurd rfl (hne _ _)
 | move x => simp only [compOp] at hc; obtain ⟨q, hq, hc⟩ := ofO_some hc; cases hc
 | assign x => simp only [compOp] at hc; obtain ⟨q, hq, hc⟩ := ofO_some hc; cases hc
 | nilCheck x => simp only [compOp] at hc; obtain ⟨q, hq, hc⟩ := ofO_some hc; cases hc
 | extract t i => simp only [compOp] at hc; obtain ⟨q, hq, hc⟩ := ofO_some hc; cases hc
 | alloc t => simp only [compOp] at hc; obtain ⟨q, hq, hc⟩ := ofO_some hc; cases hc
 | convert s d x =>
  simp only [compOp] at hc; obtain ⟨q, hq, hc⟩ := ofO_some hc
  unfold compConv at hc
  repeat' split at hc
  all_goals cases hc
 | makeFunc f p q =>
  cases f with
  | func f => simp only [compOp] at hc; obtain ⟨q, hq, hc⟩ := ofO_some hc; cases hc
  | _ => simp [compOp] at hc
 | makeMap t r => cases r <;> simp only [compOp] at hc <;> cases hc
 | binOp op t x y yt =>
  simp only [compOp] at hc
  split at hc
  ·unfold compBin compEq at hc
   repeat' split at hc
   all_goals cases hc
  ·cases hc
 | typeAssert x xt t ok =>
  simp only [compOp] at hc
  repeat' split at hc
  all_goals first
   | (cases hc; done)
   | (obtain ⟨q, hq, hc⟩ := ofO_some hc; cases hc)
 | build t ps =>
  simp only [compOp] at hc
  repeat' split at hc
  all_goals first
   | (cases hc; done)
   | (obtain ⟨q, hq, hc⟩ := ofO_some hc; cases hc)
 | slice t x lo hi mx =>
  simp only [compOp] at hc
  repeat' split at hc
  all_goals first
   | (cases hc; done)
   | (obtain ⟨q, hq, hc⟩ := ofO_some hc; cases hc)
 | indexAddr t x y =>
  simp only [compOp] at hc
  repeat' split at hc
  all_goals first
   | (cases hc; done)
   | (obtain ⟨q, hq, hc⟩ := ofO_some hc; cases hc)
 | pick c x y => simp only [compOp] at hc; repeat' split at hc
                 all_goals cases hc
 | box t x => simp only [compOp] at hc; repeat' split at hc
              all_goals cases hc
 | buildSlice t n ps => simp only [compOp] at hc; repeat' split at hc
                        all_goals cases hc
 | makeSlice t x y => simp only [compOp] at hc; repeat' split at hc
                      all_goals cases hc
 | load t x => simp only [compOp] at hc; repeat' split at hc
               all_goals cases hc
 | unOp op t x => simp only [compOp] at hc; repeat' split at hc
                  all_goals cases hc
 | makeInterface t x => simp only [compOp] at hc; repeat' split at hc
                        all_goals cases hc
 | fieldAddr s x i => simp only [compOp] at hc; repeat' split at hc
                      all_goals cases hc
 | field s x i => simp only [compOp] at hc; repeat' split at hc
                  all_goals cases hc
 | index t x y => simp only [compOp] at hc; repeat' split at hc
                  all_goals cases hc
 | lookup t x y ok => simp only [compOp] at hc; repeat' split at hc
                      all_goals cases hc
 | _ => simp [compOp] at hc
theorem run_callValue {o : Oper} {cl : Call} {fo : Operand} {g : Nat} {x y : List Value} (ho : o.op = .call cl) (h1 : cl.callee = .value fo) (h : ev fo = .func (.func g) ⟨x⟩ ⟨y⟩) :
 (execOp ev o).run P w = (callFunc g ((⟨x⟩ ++ cl.args.map ev) ++ ⟨y⟩)).run P w := by
 simp only [execOp, ho, resolve, h1, h, Deferred.ofValue, Sem.run_bind, Sem.run_pure, Result.andThen_ok, invoke]
theorem run_defer {o : Oper} {cl : Call} {fo : Operand} {g : Nat} {x y : List Value} (ho : o.op = .defer cl) (h1 : cl.callee = .value fo) (h : ev fo = .func (.func g) ⟨x⟩ ⟨y⟩) :
 (execOp ev o).run P w = .ok (.defer { target := .fn (.func g) ⟨y⟩, args := ⟨x⟩ ++ cl.args.map ev }) w := by
 simp only [execOp, ho, resolve, h1, h, Deferred.ofValue, Sem.run_bind, Sem.run_pure, Result.andThen_ok]
theorem run_invoke {o : Oper} {cl : Call} {r : Operand} {nm : String} {t f : Nat} {v : Value} (ho : o.op = .call cl) (h1 : cl.callee = .invoke r nm) (h : ev r = .iface t v) (hm : (method (P.types.size + Made.depth) t v nm).run P w = .ok (f, v) w) :
 (execOp ev o).run P w = (callFunc f (#[v] ++ cl.args.map ev)).run P w := by
 have hx : (#[ev r] ++ cl.args.map ev).extract 1 (#[ev r] ++ cl.args.map ev).size = cl.args.map ev := by
  apply Array.ext'
  simp
  exact List.take_of_length_le (by simp)
 have h0 : (#[ev r] ++ cl.args.map ev)[0]? = some (ev r) := by rw [Array.getElem?_append_left (by simp)]; rfl
 have hp : (program : Sem Program).run P w = .ok P w := rfl
 rw [h] at hx h0
 simp only [execOp, ho, resolve, h1, Sem.run_bind, Sem.run_pure, Result.andThen_ok, invoke, h]
 rw [h0]
 simp only [callMethod, Sem.run_bind, hp, Result.andThen_ok, hm]
 rw [hx]
theorem run_panic {o : Oper} {x : Operand} {t : Nat} {v : Value} (ho : o.op = .panic x) (h : ev x = .iface t v) : (execOp ev o).run P w = .halt (.panic (.iface t v)) w := by
 simp only [execOp, ho, h, Instr.panic, goPanic]
 rfl
theorem run_bpanic {o : Oper} {cl : Call} {x : Operand} {t : Nat} {v : Value} (ho : o.op = .call cl) (h1 : cl.callee = .builtin .panic) (ha : cl.args.toList = [x]) (h : ev x = .iface t v) : (execOp ev o).run P w = .halt (.panic (.iface t v)) w := by
 have : cl.args = #[x] := by apply Array.ext'; simpa using ha
 simp only [execOp, ho, resolve, h1, Sem.run_bind, Sem.run_pure, Result.andThen_ok, invoke, builtin, this]
 simp [Instr.panic, h, goPanic]
theorem run_recov {o : Oper} {cl : Call} (ho : o.op = .call cl) (h1 : cl.callee = .builtin .recover) : (execOp ev o).run P w = .ok .recover w := by
 simp only [execOp, ho, resolve, h1, Sem.run_bind, Sem.run_pure, Result.andThen_ok, invoke, builtin]
end Go.Vm

namespace Go.Vm
open Go Go.RowKit
variable {P : Program} {mid : String → Option Nat} {mt : List (Nat × Nat × Nat)} {cf : CallF} {dfr : Bool} {c0 : Frame} {cs0 : List Frame} {ρ ρ' : Rho} {H0 nt : Nat} {ex : List Nat} {opsA : Array Oper} {ops : List Oper} {anc : Array Nat} {kn : List Known} {e : Env} {loc loc' : List AV} {d d' : List ADef} {m m' : Mem} {pn pn' : List PE}
 {D : List Nat} {a a1 : Act} {cs cs' : List Frame} {w w' : World} {ph : Nat → Option Nat} {ρ0 : Rho} {m0 : Mem} {w0 : World} {Q : Post} {rest : List Nat} {k : Known}
theorem DoneInv.same (h : DoneInv ρ ex ops anc kn e loc D a) (ha : a1.tmps = a.tmps) : DoneInv ρ ex ops anc kn e loc D a1 := by
 have hev : ∀ t, a1.eval (.tmp t) = a.eval (.tmp t) := fun t => by simp [Act.eval, ha]
 exact ⟨h.closed, h.known, fun i hi k o t h1 h2 h3 h4 x hx => by rw [hev]; exact h.done i hi k o t h1 h2 h3 h4 x hx, fun q t h1 h2 x hx => by rw [hev]; exact h.vars q t h1 h2 x hx⟩
theorem Pend.again {i : Nat} {o : Oper} {k' : Known} (hk : knownAt kn i = some k') (ho : ops[i]? = some o) (h : Pend P mid ρ ex ops anc kn e loc m ph i o k') {i0 : Nat} (ha : Again P mid ex ops anc kn e loc m' i0) (hi : (anc.getD i0 0).testBit i = false) (hst : Stp H0 ρ m w ρ' m' w') (hW : WR ρ H0 m w) :
 Pend P mid ρ' ex ops anc kn e loc m' ph i o k' := by
 cases h with
 | alias x hm hg ht => exact .alias x hm hg ht
 | off hw hv => exact .off hw hv
 | light σ c loc1 v hw hc ht hp hv =>
  rcases ha i k' o hk hi ho with h1 | h1 | ⟨σ', c', loc2, v', h1, h2, h3, h4⟩
  ·have : readsMem c = false := by
    cases hr : readsMem c with
    | false => rfl
    | true => rw [reads_sound hc hr] at h1; cases h1
   exact .light σ c loc1 v hw hc ht (by rw [pure_mem this m' m]; exact hp) hv
  ·rw [hw] at h1; cases h1
  ·exact .light σ' c' loc2 v' hw h1 h2 h3 h4
 | al σ f xs loc1 l B g b hw hc ht hl hr hv hb hρ hi' =>
  obtain ⟨h1, h2⟩ := hst.pha b (hW.live b B hb) hρ
  exact .al σ f xs loc1 l B g b hw hc ht hl hr hv (by rw [h2]; exact hb) h1 hi'
theorem Inv.heavy (hs : Static nt ops) (inv : Inv P mid dfr c0 cs0 H0 nt ex ops anc e ρ0 m0 w0 kn loc d m pn D ph ρ a cs w) {i : Nat} {o : Oper} (ht : Turn ops anc kn loc i o) (_ : wantA kn e loc o.guard = true) (ha : ∀ j, (anc.getD i 0).testBit j = true → j ∈ D) {v : AV} {u : Value}
 (hn : HNext P mid ex ops anc e kn loc loc' m' i k v) (hW : WR ρ' H0 m' w') (hst : Stp H0 ρ m w ρ' m' w') (hv : VR ρ' v u) (hta : a1.tmps = a.tmps) (hds : DRs ρ' d' a1.defers) (hpn : PnR dfr c0 cs0 ρ' pn' cs') :
 Inv P mid dfr c0 cs0 H0 nt ex ops anc e ρ0 m0 w0 (k :: kn) loc' d' m' pn' (i :: D) ph ρ' (a1.put o.dst u) cs' w' := by
 have hk : knownAt kn k.i = none := by rw [hn.ki]; exact ht.new
 have hiD : i ∉ D := fun h => by
  obtain ⟨k', hk'⟩ := inv.dn.known i h
  rw [ht.new] at hk'; cases hk'
 have hkg : ∀ j b, k.g = some (j, b) → ∃ q, knownAt kn j = some ⟨j, .p q, none⟩ ∧ q < loc.length := by
  intro j b h; rw [hn.kg] at h; cases h
 have hsz : a1.tmps.size = nt := by rw [hta]; exact inv.size
 refine { kin := kin_ext hn.ext inv.kin hn.kin, dn := ?_, wr := hW, glob := fun g hg => let ⟨room, h⟩ := inv.glob g hg; ⟨room, hst.rho _ _ h⟩, ds := ?_, pn := hpn, size := ?_, pend := ?_, phl := ?_, phi := inv.phi, stp := inv.stp.trans hst, gk := GKn.ext hk hn.ext inv.gk hkg }
 ·refine DoneInv.put hs hsz ((((inv.dn.mono hst.rho).same hta).ext hk hn.ext inv.kin inv.gk)) ht.op hiD ha (knownAt_cons_eq hn.ki) ?_
  intro _ x hx
  rw [hn.val] at hx; cases hx; exact hv
 ·rw [put_defers']; exact hds
 ·rw [put_size]; exact hsz
 ·intro j k' hk' hj
  have hji : j ≠ i := fun h => hj (h ▸ List.mem_cons_self)
  have hjD : j ∉ D := fun h => hj (List.mem_cons_of_mem _ h)
  rw [knownAt_cons_ne (by rw [hn.ki]; exact fun h => hji h.symm)] at hk'
  obtain ⟨o', h1, h2, h3⟩ := inv.pend j k' hk' hjD
  have hna : (anc.getD i 0).testBit j = false := by
   cases h : (anc.getD i 0).testBit j with
   | false => rfl
   | true => exact absurd (ha j h) hjD
  exact ⟨o', h1, h2.ext hk hn.ext, (h3.again hk' h1 hn.again hna hst inv.wr).ext hk hn.ext inv.kin (knownAt_mem hk').1 h2⟩
 ·intro j b hb
  have := inv.phl j b hb
  exact ⟨this.1, Nat.lt_of_lt_of_le this.2 hst.nx⟩
theorem hop_go {W0 : World} (hB : Below H0 W0 w0) (hmt : MtOk P mid mt) (hcf : CfOk P H0 W0 cf) (hs : Static nt opsA.toList) (inv : Inv P mid dfr c0 cs0 H0 nt ex opsA.toList anc e ρ0 m0 w0 kn loc d m pn D ph ρ a cs w) {i : Nat} {o : Oper} {r : HRes} (hst : HStep P mid mt cf ex opsA.toList anc e kn loc d m pn i o r)
 (ha : ∀ j, (anc.getD i 0).testBit j = true → j ∈ D) (hns : ∀ y, r ≠ .stuck y)
 (hval : ∀ v d' m' pn', r = .val v d' m' pn' → ∀ (ρ' : Rho) (a1 : Act) (cs' : List Frame) (w' : World) (u : Value), WR ρ' H0 m' w' → Stp H0 ρ m w ρ' m' w' → VR ρ' v u → a1.tmps = a.tmps → DRs ρ' d' a1.defers → PnR dfr c0 cs0 ρ' pn' cs' → GoO P dfr opsA Q rest (a1.put o.dst u) cs' w')
 (hpan : ∀ v d' m', r = .pan v d' m' → ∀ (ρ' : Rho) (w' : World) (u : Value), WR ρ' H0 m' w' → Stp H0 ρ m w ρ' m' w' → VR ρ' v u → IsI v → d' = d → Q (.panic [{ v := u, recovered := false }]) a cs w') : GoO P dfr opsA Q (i :: rest) a cs w := by
 have ho' : opsA[i]? = some o := by simpa using hst.turn.op
 have hiD : i ∉ D := fun h => by
  obtain ⟨k', hk'⟩ := inv.dn.known i h
  rw [hst.turn.new] at hk'; cases hk'
 have hwant := guard_same hs inv.size inv.kin inv.dn ha hst.turn.guard ho'
 rw [hst.want] at hwant
 obtain ⟨σ, hop, loc1, hc, ht, hrun⟩ := hst.run
 have hσ := Truths.opdR inv.glob inv.dn hiD ha hst.want ht
 have call : ∀ (f : Nat) (l : List AV) (args : Array Value), VRs ρ l args.toList → (execOp a.eval o).run P w = (callFunc f args).run P w → r = ofCall d pn (cf f l m nrm) → GoO P dfr opsA Q (i :: rest) a cs w := by
  intro f l args hv he hr
  have hns' : ∀ y, cf f l m nrm ≠ .stuck y := by
   intro y hy
   rw [hy] at hr
   exact hns y hr
  have hend : ∀ e' w', CEnd ρ H0 m w (cf f l m nrm) e' w' → (∀ u, e' = .returned u → GoO P dfr opsA Q rest (a.put o.dst u) cs w') ∧ (∀ ch, e' = .panicked ch → Q (.panic ch) a cs w') ∧ e' ≠ .outgrown := by
   intro e' w' hce
   cases hcr : cf f l m nrm with
   | stuck y => exact absurd hcr (hns' y)
   | ret v m2 pn2 =>
    rw [hcr] at hce hr
    obtain ⟨u, ρ', rfl, h1, h2, h3⟩ := hce
    refine ⟨?_, (fun ch h => by cases h), (fun h => by cases h)⟩
    intro u' hu
    cases hu
    exact hval v d m2 pn hr ρ' a cs w' u h2 h3 h1 rfl (inv.ds.mono h3.rho) (inv.pn.mono h3.rho)
   | pan v m2 =>
    rw [hcr] at hce hr
    obtain ⟨u, ρ', rfl, h0, h1, h2, h3⟩ := hce
    refine ⟨(fun u h => by cases h), ?_, (fun h => by cases h)⟩
    intro ch hch
    cases hch
    exact hpan v d m2 hr ρ' w' u h2 h3 h1 h0 rfl
  rcases hcf f l m ρ w args inv.wr inv.glob (hB.trans inv.stp.low) hv hns' with ⟨h1, h2⟩ | ⟨u, w', h1, h2⟩
  ·exact o_enter ho' hwant (by rw [he]; exact h1) h2 (fun u w2 hR => (hend _ _ hR).1 u rfl) (fun ch w2 hR => (hend _ _ hR).2.1 ch rfl) (fun w2 hR => (hend _ _ hR).2.2 rfl)
  ·exact o_value ho' hwant (by rw [he]; exact h1) (.inl rfl) ((hend _ _ h2).1 u rfl)
 have eargs : ∀ (cl : Call) (xs : List Opd) (l : List AV), opds σ cl.args.toList = some xs → evs e loc1 xs = some l → VRs ρ l (cl.args.map a.eval).toList := by
  intro cl xs l h1 h2
  have := opds_sound hσ _ _ _ h1 h2
  simpa using this
 by_cases heff : ∃ f xs, hop = .eff f xs
 ·obtain ⟨f, xs, rfl⟩ := heff
  have hrun' : onO (evs e loc1 xs) (fun l => onO (f.run m l) (fun p => HRes.val p.1 d p.2 pn) (.stuck 1)) (.stuck 2) = r := hrun
  cases hl : evs e loc1 xs with
  | none => rw [hl] at hrun'; exact absurd hrun'.symm (hns 2)
  | some l =>
   rw [hl, onO_s] at hrun'
   cases hf : f.run m l with
   | none => rw [hf] at hrun'; exact absurd hrun'.symm (hns 1)
   | some p =>
    obtain ⟨v, m2⟩ := p
    rw [hf, onO_s] at hrun'
    obtain ⟨n, w', ρ', u, h1, h2, h3, h4, h5⟩ := eff_sound inv.wr hσ hc hl hf
    exact o_value ho' hwant h1 h2 (hval v d m2 pn hrun'.symm ρ' a cs w' u h3 h4 h5 rfl (inv.ds.mono h4.rho) (inv.pn.mono h4.rho))
 ·have hk := heavy_of hc (fun f xs h => heff ⟨f, xs, h⟩)
  generalize hop' : o.op = op at hk
  cases hk with
  | callf cl fo g xs h1 h2 h3 =>
   have hrun' : onO (evs e loc1 xs) (fun l => ofCall d pn (cf g l m nrm)) (.stuck 3) = r := hrun
   cases hl : evs e loc1 xs with
   | none => rw [hl] at hrun'; exact absurd hrun'.symm (hns 3)
   | some l =>
    rw [hl, onO_s] at hrun'
    obtain ⟨x, y, hf, hx, hy⟩ := func_inv (hσ fo _ _ h2 (ev_c _ _ _))
    cases hx; cases hy
    refine call g l _ ?_ (run_callValue hop' h1 hf) hrun'.symm
    have := eargs cl xs l h3 hl
    simpa using this
  | call cl fo q xs h1 h2 h3 =>
   have hrun' : ofCall d pn (callV cf (q.ev e loc1) (evs e loc1 xs) m) = r := hrun
   unfold callV at hrun'
   split at hrun'
   ·rename_i g fs caps l hq hl
    obtain ⟨x, y, hf, hx, hy⟩ := func_inv (hσ fo _ _ h2 hq)
    rw [ap_eq, ap_eq] at hrun'
    refine call g _ _ ?_ (run_callValue hop' h1 hf) hrun'.symm
    have := eargs cl xs l h3 hl
    simp only [Array.toList_append, List.append_assoc]
    exact hx.append (this.append hy)
   ·exact absurd hrun'.symm (hns 4)
  | invoke cl rr nm n q xs h1 hn h2 h3 =>
   have hrun' : ofCall d pn (callM mt cf n (q.ev e loc1) (evs e loc1 xs) m) = r := hrun
   unfold callM at hrun'
   split at hrun'
   ·rename_i t v l hq hl
    split at hrun'
    ·rename_i f hf
     have hvr := hσ rr _ _ h2 hq
     generalize hev : a.eval rr = rv at hvr
     cases hvr with
     | iface t v u hu =>
      refine call f _ _ ?_ (run_invoke hop' h1 hev (hmt t n f nm u w hn hf)) hrun'.symm
      have := eargs cl xs l h3 hl
      simp only [Array.toList_append]
      exact .cons _ _ _ _ hu (by simpa using this)
    ·exact absurd hrun'.symm (hns 5)
   ·exact absurd hrun'.symm (hns 6)
  | recov cl h1 =>
   have hrun' : recovV pn d m = r := hrun
   cases dfr with
   | false =>
    obtain ⟨_, hpn⟩ := inv.pn
    rw [hpn] at hrun'
    exact absurd hrun'.symm (hns 9)
   | true =>
    obtain ⟨u, hcs, hu⟩ := inv.pn
    rcases hu with ⟨hp, hu⟩ | ⟨v, v', rc, hp, hi, hv, hu⟩
    ·subst hp hu
     refine o_recover ho' hwant (run_recov hop' h1) rfl (.inr ⟨?_, rfl, rfl⟩) (hval .nili d m [] hrun'.symm ρ a cs w .nilIface inv.wr (Stp.refl _ _ _ _) .nili rfl inv.ds inv.pn)
     rw [hcs]; rfl
    ·obtain ⟨t, x, rfl⟩ := hi
     subst hp
     cases rc with
     | false =>
      refine o_recover (v := v') (cs' := { c0 with mode := .panicking [⟨v', true, false⟩] } :: cs0) ho' hwant (run_recov hop' h1) rfl (.inl ?_) (hval (.iface t x) d m [⟨.iface t x, true⟩] hrun'.symm ρ a _ w v' inv.wr (Stp.refl _ _ _ _) hv rfl inv.ds ?_)
      ·rw [hcs, hu]; rfl
      ·exact ⟨_, rfl, .inr ⟨_, v', true, rfl, ⟨t, x, rfl⟩, hv, rfl⟩⟩
     | true =>
      refine o_recover ho' hwant (run_recov hop' h1) rfl (.inr ⟨?_, rfl, rfl⟩) (hval .nili d m _ hrun'.symm ρ a cs w .nilIface inv.wr (Stp.refl _ _ _ _) .nili rfl inv.ds inv.pn)
      rw [hcs, hu]; rfl
  | bpanic cl q h1 h3 =>
   have hrun' : panicV (q.ev e loc1) d m = r := hrun
   unfold panicV at hrun'
   split at hrun'
   ·rename_i t v hq
    have hxs : ∃ x, cl.args.toList = [x] ∧ σ x = some q := by
     generalize cl.args.toList = L at h3
     cases L with
     | nil => simp [opds] at h3
     | cons x L =>
      simp only [opds] at h3
      split at h3
      ·rename_i a1 r1 e1 e2
       cases h3
       cases L with
       | nil => exact ⟨x, rfl, e1⟩
       | cons y L =>
        simp only [opds] at e2
        split at e2 <;> cases e2
      ·cases h3
    obtain ⟨x, hargs, hx⟩ := hxs
    have hvr := hσ x _ _ hx hq
    generalize hev : a.eval x = rv at hvr
    cases hvr with
    | iface t v u hu =>
     exact o_panic ho' hwant (run_bpanic hop' h1 hargs hev) (hpan _ d m hrun'.symm ρ w _ inv.wr (Stp.refl _ _ _ _) (.iface t v u hu) ⟨t, v, rfl⟩ rfl)
   ·exact absurd hrun'.symm (hns 8)
  | defr cl fo q xs h1 h2 h3 =>
   have hrun' : onO (deferV (q.ev e loc1) (evs e loc1 xs)) (fun x => HRes.val undefA (x :: d) m pn) (.stuck 7) = r := hrun
   unfold deferV at hrun'
   split at hrun'
   ·rename_i g fs caps l hq hl
    obtain ⟨x, y, hf, hx, hy⟩ := func_inv (hσ fo _ _ h2 hq)
    rw [onO_s, ap_eq, ap_eq] at hrun'
    refine o_defer ho' hwant (run_defer hop' h1 hf) (hval _ _ m pn hrun'.symm ρ { a with defers := _ :: a.defers } cs w undef inv.wr (Stp.refl _ _ _ _) undef_vr rfl (.cons _ _ _ _ _ _ ?_ inv.ds) inv.pn)
    have := eargs cl xs l h3 hl
    simp only [Array.toList_append, List.append_assoc]
    exact hx.append (this.append hy)
   ·exact absurd hrun'.symm (hns 7)
  | panic x q h2 =>
   have hrun' : panicV (q.ev e loc1) d m = r := hrun
   unfold panicV at hrun'
   split at hrun'
   ·rename_i t v hq
    have hvr := hσ x _ _ h2 hq
    generalize hev : a.eval x = rv at hvr
    cases hvr with
    | iface t v u hu =>
     exact o_panic ho' hwant (run_panic hop' hev) (hpan _ d m hrun'.symm ρ w _ inv.wr (Stp.refl _ _ _ _) (.iface t v u hu) ⟨t, v, rfl⟩ rfl)
   ·exact absurd hrun'.symm (hns 8)
end Go.Vm

namespace Go.Vm
open Go Go.RowKit
variable {P : Program} {mid : String → Option Nat} {mt : List (Nat × Nat × Nat)} {cf : CallF} {dfr : Bool} {c0 : Frame} {cs0 : List Frame} {ρ ρ' : Rho} {H0 nt : Nat} {ex : List Nat} {opsA : Array Oper} {ops : List Oper} {anc : Array Nat} {kn knF : List Known} {e : Env} {loc loc' : List AV} {d d' : List ADef} {m m' : Mem} {pn pn' : List PE}
 {D : List Nat} {a a1 : Act} {cs cs' : List Frame} {w w' : World} {ph : Nat → Option Nat} {ρ0 : Rho} {m0 : Mem} {w0 : World} {Q : Post} {rest : List Nat} {k : Known} {RR : RRes} {hF : Nat}
theorem val_no_stuck {v : AV} {d : List ADef} {m : Mem} {pn : List PE} : ∀ y, HRes.val v d m pn ≠ .stuck y := fun y h => by cases h
theorem pan_no_stuck {v : AV} {d : List ADef} {m : Mem} : ∀ y, HRes.pan v d m ≠ .stuck y := fun y h => by cases h
structure EndOk (P : Program) (mid : String → Option Nat) (dfr : Bool) (c0 : Frame) (cs0 : List Frame) (H0 nt : Nat) (ex : List Nat) (ops : List Oper) (anc : Array Nat) (e : Env) (ρ0 : Rho) (m0 : Mem) (w0 : World) (knF : List Known) (hF : Nat) (RR : RRes) (Q : Post) : Prop where
 done : ∀ kn loc d m m' pn D ph ρ a cs w, RR = .done loc d m' pn → MemEq m m' → (∀ i, knownAt kn i = knownAt knF i) → loc.length = hF → (∀ i, i < ops.length → ∃ k, knownAt kn i = some k) → (∀ i, i < ops.length → i ∈ D) →
  Inv P mid dfr c0 cs0 H0 nt ex ops anc e ρ0 m0 w0 kn loc d m pn D ph ρ a cs w → Q .normal a cs w
 pan : ∀ kn loc d m m' pn D ph ρ ρ' a cs w w' v u, RR = .pan v d m' → Inv P mid dfr c0 cs0 H0 nt ex ops anc e ρ0 m0 w0 kn loc d m pn D ph ρ a cs w → WR ρ' H0 m' w' → Stp H0 ρ m w ρ' m' w' → VR ρ' v u → IsI v → Q (.panic [{ v := u, recovered := false }]) a cs w'
theorem ahead_sound {W0 : World} (hB : Below H0 W0 w0) (hmt : MtOk P mid mt) (hcf : CfOk P H0 W0 cf) (hs : Static nt opsA.toList) (hQ : EndOk P mid dfr c0 cs0 H0 nt ex opsA.toList anc e ρ0 m0 w0 knF hF RR Q) :
 ∀ (τ D : List Nat), Valid anc opsA.size D τ → ∀ kn loc d m pn, Ahead P mid mt cf ex opsA.toList anc e knF hF RR kn loc d m pn → ∀ ph ρ a cs w, Inv P mid dfr c0 cs0 H0 nt ex opsA.toList anc e ρ0 m0 w0 kn loc d m pn D ph ρ a cs w → GoO P dfr opsA Q τ a cs w := by
 intro τ
 induction τ with
 | nil =>
  intro D hv kn loc d m pn hA ph ρ a cs w inv
  have hall : ∀ i, i < opsA.size → i ∈ D := by cases hv with | nil D h => exact h
  have hlen : opsA.toList.length = opsA.size := by simp
  have unk : ∀ i o, Turn opsA.toList anc kn loc i o → False := by
   intro i o ht
   have hi : i < opsA.size := by
    have := (List.getElem?_eq_some_iff.1 ht.op).1
    simpa using this
   obtain ⟨k, hk⟩ := inv.dn.known i (hall i hi)
   rw [ht.new] at hk; cases hk
  cases hA with
  | nil kn loc d m m' pn hr hm hk hl ha => exact o_nil (hQ.done kn loc d m m' pn D ph ρ a cs w hr hm hk hl ha (fun i hi => hall i (by rw [← hlen]; exact hi)) inv)
  | quiet i o k kn loc loc' d m m' pn ht => exact (unk i o ht).elim
  | heavy i o k kn loc loc' d d' m m' pn pn' v hh => exact (unk i o hh.turn).elim
  | pan i o kn loc d d' m m' pn v hh => exact (unk i o hh.turn).elim
  | two i j oi oj ki kj kn loc li lj d di dj m mi mj pn pi pj vi vj hi => exact (unk i oi hi.turn).elim
 | cons t τ ih =>
  intro D hv kn loc d m pn hA
  have hlt : t < opsA.size := by cases hv with | cons D i τ hi => exact hi
  have hnD : t ∉ D := by cases hv with | cons D i τ hi hn => exact hn
  have hanc : ∀ j, (anc.getD t 0).testBit j = true → j ∈ D := by cases hv with | cons D i τ hi hn ha => exact ha
  have hv' : Valid anc opsA.size (t :: D) τ := by cases hv with | cons D i τ hi hn ha t => exact t
  have hlen : opsA.toList.length = opsA.size := by simp
  have pend : ∀ kn loc d m pn, Ahead P mid mt cf ex opsA.toList anc e knF hF RR kn loc d m pn → ∀ ph ρ a cs w k, knownAt kn t = some k → Inv P mid dfr c0 cs0 H0 nt ex opsA.toList anc e ρ0 m0 w0 kn loc d m pn D ph ρ a cs w → GoO P dfr opsA Q (t :: τ) a cs w := by
   intro kn loc d m pn hA ph ρ a cs w k hk inv
   exact pend_go hs inv hk hnD hanc fun ρ' a' w' inv' => ih (t :: D) hv' kn loc d m pn hA ph ρ' a' cs w' inv'
  have ord : ∀ kn loc d m pn ph ρ a cs w i, Inv P mid dfr c0 cs0 H0 nt ex opsA.toList anc e ρ0 m0 w0 kn loc d m pn D ph ρ a cs w → knownAt kn i = none → (anc.getD t 0).testBit i = true → False := by
   intro kn loc d m pn ph ρ a cs w i inv hk hb
   obtain ⟨k, hk'⟩ := inv.dn.known i (hanc i hb)
   rw [hk] at hk'; cases hk'
  have hvy : ∀ kn loc d m pn ph ρ a cs w o k loc' v d' m' pn', HStep P mid mt cf ex opsA.toList anc e kn loc d m pn t o (.val v d' m' pn') → HNext P mid ex opsA.toList anc e kn loc loc' m' t k v → Ahead P mid mt cf ex opsA.toList anc e knF hF RR (k :: kn) loc' d' m' pn' →
   Inv P mid dfr c0 cs0 H0 nt ex opsA.toList anc e ρ0 m0 w0 kn loc d m pn D ph ρ a cs w → GoO P dfr opsA Q (t :: τ) a cs w := by
   intro kn loc d m pn ph ρ a cs w o k loc' v d' m' pn' hh hn hA inv
   refine hop_go hB hmt hcf hs inv hh hanc val_no_stuck ?_ (fun v d' m' h => by cases h)
   intro v2 d2 m2 pn2 hr ρ' a1 cs' w' u hW hst hvr hta hds hpn
   cases hr
   exact ih (t :: D) hv' (k :: kn) loc' d' m' pn' hA ph ρ' _ cs' w' (Inv.heavy hs inv hh.turn hh.want hanc hn hW hst hvr hta hds hpn)
  have tl : t < opsA.toList.length := by rw [hlen]; exact hlt
  induction hA with
  | nil kn loc d m m' pn hr hm hk hl ha =>
   intro ph ρ a cs w inv
   obtain ⟨k, hk'⟩ := ha t tl
   exact pend kn loc d m pn (.nil kn loc d m m' pn hr hm hk hl ha) ph ρ a cs w k hk' inv
  | quiet i o k kn loc loc' d m m' pn ht hki hkin hx hq hA ihA =>
   intro ph ρ a cs w inv
   obtain ⟨ph', inv'⟩ := inv.quiet ht hki hkin hx hq
   exact ihA ph' ρ a cs w inv'
  | heavy i o k kn loc loc' d d' m m' pn pn' v hh hn ho hA ihA =>
   intro ph ρ a cs w inv
   cases hk : knownAt kn t with
   | some k' => exact pend kn loc d m pn (.heavy i o k kn loc loc' d d' m m' pn pn' v hh hn ho hA) ph ρ a cs w k' hk inv
   | none =>
    by_cases hti : t = i
    ·subst hti
     exact hvy kn loc d m pn ph ρ a cs w o k loc' v d' m' pn' hh hn hA inv
    ·exact (ord kn loc d m pn ph ρ a cs w i inv hh.turn.new (ho t tl hti hk)).elim
  | pan i o kn loc d d' m m' pn v hh hr ho =>
   intro ph ρ a cs w inv
   cases hk : knownAt kn t with
   | some k' => exact pend kn loc d m pn (.pan i o kn loc d d' m m' pn v hh hr ho) ph ρ a cs w k' hk inv
   | none =>
    by_cases hti : t = i
    ·subst hti
     refine hop_go hB hmt hcf hs inv hh hanc pan_no_stuck (fun v d' m' pn' h => by cases h) ?_
     intro v2 d2 m2 h ρ' w' u hW hst hvr hi hd
     cases h
     subst hd
     exact hQ.pan kn loc _ m m' pn D ph ρ ρ' a cs w w' v u hr inv hW hst hvr hi
    ·exact (ord kn loc d m pn ph ρ a cs w i inv hh.turn.new (ho t tl hti hk)).elim
  | two i j oi oj ki kj kn loc li lj d di dj m mi mj pn pi pj vi vj hi ni hj nj ho ti tj ihi ihj =>
   intro ph ρ a cs w inv
   cases hk : knownAt kn t with
   | some k' => exact pend kn loc d m pn (.two i j oi oj ki kj kn loc li lj d di dj m mi mj pn pi pj vi vj hi ni hj nj ho ti tj) ph ρ a cs w k' hk inv
   | none =>
    rcases ho t tl hk with rfl | rfl
    ·exact hvy kn loc d m pn ph ρ a cs w oi ki li vi di mi pi hi ni ti inv
    ·exact hvy kn loc d m pn ph ρ a cs w oj kj lj vj dj mj pj hj nj tj inv
end Go.Vm

namespace Go.Vm
open Go Go.RowKit
theorem bit_add (i : Nat) : ∀ (n j : Nat), n.testBit i = false → (n + 2 ^ i).testBit j = (decide (j = i) || n.testBit j) := by
 induction i with
 | zero =>
  intro n j h
  rw [Nat.testBit_zero] at h
  have h' : n % 2 = 0 := by
   have := Nat.mod_two_eq_zero_or_one n
   rcases this with h1 | h1
   ·exact h1
   ·rw [h1] at h; simp at h
  cases j with
  | zero => rw [Nat.testBit_zero]; have : (n + 2 ^ 0) % 2 = 1 := by omega
            simp [this]
  | succ j => rw [Nat.testBit_succ, Nat.testBit_succ]; have : (n + 2 ^ 0) / 2 = n / 2 := by omega
              rw [this]; simp
 | succ i ih =>
  intro n j h
  rw [Nat.testBit_succ] at h
  cases j with
  | zero =>
   rw [Nat.testBit_zero, Nat.testBit_zero]
   have : (n + 2 ^ (i + 1)) % 2 = n % 2 := by rw [Nat.pow_succ]; omega
   rw [this]; simp
  | succ j =>
   rw [Nat.testBit_succ, Nat.testBit_succ]
   have : (n + 2 ^ (i + 1)) / 2 = n / 2 + 2 ^ i := by rw [Nat.pow_succ]; omega
   rw [this, ih _ _ h]
   simp
theorem land_all {x y : Nat} (h : Nat.land x y = x) {j : Nat} (hj : x.testBit j = true) : y.testBit j = true := by
 have : (x &&& y).testBit j = x.testBit j := by rw [show x &&& y = x from h]
 rw [Nat.testBit_and, hj] at this
 simpa using this
 mutual
theorem same_eq : ∀ (a b : AV), same a b = true → a = b
 | .bool a, b, h => by cases b <;> simp [same] at h; rw [h]
 | .int j a, b, h => by
  cases b <;> simp [same] at h
  rename_i k c
  obtain ⟨h1, h2⟩ := h
  have e1 : j = k := by cases j <;> cases k <;> simp [kEq] at h1 <;> rfl
  have e2 : a = c := by
   unfold iEq at h2
   split at h2
   ·rw [Nat.eq_of_beq_eq_true h2]
   ·rw [Nat.eq_of_beq_eq_true h2]
   ·cases h2
  rw [e1, e2]
 | .str a b, c, h => by
  cases c <;> simp [same, strEq] at h
  rename_i x y
  cases hb : Nat.beq a x with
  | false => rw [hb] at h; cases h
  | true => rw [hb] at h; rw [Nat.eq_of_beq_eq_true hb, Nat.eq_of_beq_eq_true h]
 | .ptr a b, c, h => by cases c <;> simp [same] at h; rw [h.1, h.2]
 | .nilp, c, h => by cases c <;> simp [same] at h; rfl
 | .slice a b c d e f, x, h => by cases x <;> simp [same] at h; simp [h]
 | .nils, c, h => by cases c <;> simp [same] at h; rfl
 | .map a, c, h => by cases c <;> simp [same] at h; rw [h]
 | .nilm, c, h => by cases c <;> simp [same] at h; rfl
 | .func f a b, c, h => by
  cases c <;> simp [same] at h
  obtain ⟨⟨h1, h2⟩, h3⟩ := h
  rw [h1, sames_eq _ _ h2, sames_eq _ _ h3]
 | .nilf, c, h => by cases c <;> simp [same] at h; rfl
 | .iface t a, c, h => by
  cases c <;> simp [same] at h
  rw [h.1, same_eq _ _ h.2]
 | .nili, c, h => by cases c <;> simp [same] at h; rfl
 | .agg l, c, h => by
  cases c <;> simp [same] at h
  rw [sames_eq _ _ h]
 | .tup l, c, h => by
  cases c <;> simp [same] at h
  rw [sames_eq _ _ h]
theorem sames_eq : ∀ (l r : List AV), sames l r = true → l = r
 | [], r, h => by cases r <;> simp [sames] at h; rfl
 | a :: l, r, h => by
  cases r <;> simp [sames] at h
  rw [same_eq _ _ h.1, sames_eq _ _ h.2]
end
end Go.Vm

namespace Go.Vm
open Go Go.RowKit
variable {m m' mA : Mem}
theorem kill_set {me lo hi b2 : Nat} {B : ABlk} : ∀ (ids : List Nat) (bl bl' : T ABlk), b2 ∉ ids → (∀ x, x ≠ b2 → bl'.get x = bl.get x) →
 (kill me lo hi ids bl').2 = (kill me lo hi ids bl).2 ∧ (∀ x, x ≠ b2 → (kill me lo hi ids bl').1.get x = (kill me lo hi ids bl).1.get x) ∧ (kill me lo hi ids bl').1.get b2 = bl'.get b2 ∧ (kill me lo hi ids bl).1.get b2 = bl.get b2
 | [], bl, bl', h, hb => ⟨rfl, hb, rfl, rfl⟩
 | b :: bs, bl, bl', h, hb => by
  have hn : b ≠ b2 := fun e => h (e ▸ List.mem_cons_self)
  obtain ⟨h1, h2, h3, h4⟩ := kill_set (me := me) (lo := lo) (hi := hi) (B := B) bs bl bl' (fun hm => h (List.mem_cons_of_mem _ hm)) hb
  simp only [kill]
  generalize hk : kill me lo hi bs bl = r at h1 h2 h4
  generalize hk' : kill me lo hi bs bl' = r' at h1 h2 h3
  obtain ⟨bl1, keep1⟩ := r
  obtain ⟨bl2, keep2⟩ := r'
  simp only at h1 h2 h3 h4 ⊢
  subst h1
  cases hm : Nat.beq b me with
  | true => exact ⟨rfl, h2, h3, h4⟩
  | false =>
   simp only
   rw [h2 b hn]
   split
   ·rename_i cls st ro fz c hg
    split
    ·exact ⟨rfl, h2, h3, h4⟩
    ·refine ⟨rfl, ?_, ?_, ?_⟩
     ·intro x hx
      simp only [T.get_set]
      split
      ·rfl
      ·exact h2 x hx
     ·simp only [T.get_set, if_neg (Ne.symm hn)]; exact h3
     ·simp only [T.get_set, if_neg (Ne.symm hn)]; exact h4
   ·exact ⟨rfl, h2, h3, h4⟩
theorem storeL_comm {b1 o1 b2 o2 : Nat} {l1 l2 : List AV} {c1 st1 : Nat} {ro1 : Bool} {fz1 : Nat} {k1 : List AV} {st2 : Nat} {ro2 : Bool} {fz2 : Nat} {k2 : List AV} (hb1 : m.bl.get b1 = some (.cells c1 st1 ro1 fz1 k1)) (hb2 : m.bl.get b2 = some (.cells 0 st2 ro2 fz2 k2)) (hne : b1 ≠ b2)
 (hids : b2 ∉ onO (m.cl.get c1) id []) (h1 : storeL m b1 o1 l1 = some mA) (h2 : storeL mA b2 o2 l2 = some m') : ∃ mB m2, storeL m b2 o2 l2 = some mB ∧ storeL mB b1 o1 l1 = some m2 ∧ MemEq m2 m' := by
 unfold storeL at h1
 rw [hb1] at h1
 cases ro1 with
 | true => cases h1
 | false =>
  simp only at h1
  cases hg1 : Nat.ble (o1 + ln l1) (ln k1) && allOne l1 with
  | false => rw [hg1] at h1; cases h1
  | true =>
   rw [hg1] at h1
   simp only at h1
   cases hc : Nat.beq c1 0 with
   | true =>
    rw [hc] at h1
    simp only [Option.some.injEq] at h1
    subst h1
    have hA2 : (m.bl.set b1 (some (.cells c1 st1 false fz1 (layAt o1 l1 k1)))).get b2 = some (.cells 0 st2 ro2 fz2 k2) := by rw [T.get_set, if_neg (Ne.symm hne)]; exact hb2
    unfold storeL at h2
    simp only [hA2] at h2
    cases ro2 with
    | true => cases h2
    | false =>
     simp only at h2
     cases hg2 : Nat.ble (o2 + ln l2) (ln k2) && allOne l2 with
     | false => rw [hg2] at h2; cases h2
     | true =>
      rw [hg2] at h2
      simp only [Option.some.injEq] at h2
      subst h2
      refine ⟨{ m with bl := m.bl.set b2 (some (.cells 0 st2 false fz2 (layAt o2 l2 k2))) }, { m with bl := (m.bl.set b2 (some (.cells 0 st2 false fz2 (layAt o2 l2 k2)))).set b1 (some (.cells c1 st1 false fz1 (layAt o1 l1 k1))) }, ?_, ?_, ?_⟩
      ·unfold storeL
       rw [hb2]
       simp only [hg2]
      ·have hB1 : (m.bl.set b2 (some (.cells 0 st2 false fz2 (layAt o2 l2 k2)))).get b1 = some (.cells c1 st1 false fz1 k1) := by rw [T.get_set, if_neg hne]; exact hb1
       unfold storeL
       simp only [hB1, hg1, hc]
      ·refine ⟨rfl, fun x => ?_, fun _ => rfl⟩
       simp only [T.get_set]
       by_cases e1 : x = b1
       ·rw [if_pos e1, if_neg (by rw [e1]; exact hne), if_pos e1]
       ·rw [if_neg e1, if_neg e1]
   | false =>
    rw [hc] at h1
    simp only at h1
    generalize hk : kill b1 (st1 + o1) (st1 + o1 + ln l1) (onO (m.cl.get c1) id []) m.bl = r at h1
    obtain ⟨bl1, keep1⟩ := r
    simp only [Option.some.injEq] at h1
    subst h1
    obtain ⟨q1, q2, q3, q4⟩ := kill_set (me := b1) (lo := st1 + o1) (hi := st1 + o1 + ln l1) (B := .cells 0 st2 false fz2 (layAt o2 l2 k2)) (onO (m.cl.get c1) id []) m.bl (m.bl.set b2 (some (.cells 0 st2 false fz2 (layAt o2 l2 k2)))) hids (fun x hx => by rw [T.get_set, if_neg hx])
    rw [hk] at q1 q2 q4
    simp only at q1 q2 q4
    have hA2 : (bl1.set b1 (some (.cells c1 st1 false fz1 (layAt o1 l1 k1)))).get b2 = some (.cells 0 st2 ro2 fz2 k2) := by rw [T.get_set, if_neg (Ne.symm hne), q4]; exact hb2
    unfold storeL at h2
    simp only [hA2] at h2
    cases ro2 with
    | true => cases h2
    | false =>
     simp only at h2
     cases hg2 : Nat.ble (o2 + ln l2) (ln k2) && allOne l2 with
     | false => rw [hg2] at h2; cases h2
     | true =>
      rw [hg2] at h2
      simp only [Option.some.injEq] at h2
      subst h2
      generalize hk2 : kill b1 (st1 + o1) (st1 + o1 + ln l1) (onO (m.cl.get c1) id []) (m.bl.set b2 (some (.cells 0 st2 false fz2 (layAt o2 l2 k2)))) = r2 at q1 q2 q3
      obtain ⟨bl2, keep2⟩ := r2
      simp only at q1 q2 q3
      subst q1
      refine ⟨{ m with bl := m.bl.set b2 (some (.cells 0 st2 false fz2 (layAt o2 l2 k2))) }, { m with bl := bl2.set b1 (some (.cells c1 st1 false fz1 (layAt o1 l1 k1))), cl := m.cl.set c1 (some keep2) }, ?_, ?_, ?_⟩
      ·unfold storeL
       rw [hb2]
       simp only [hg2]
      ·have hB1 : (m.bl.set b2 (some (.cells 0 st2 false fz2 (layAt o2 l2 k2)))).get b1 = some (.cells c1 st1 false fz1 k1) := by rw [T.get_set, if_neg hne]; exact hb1
       unfold storeL
       simp only [hB1, hg1, hc, hk2]
      ·refine ⟨rfl, fun x => ?_, fun _ => rfl⟩
       simp only [T.get_set]
       by_cases e1 : x = b1
       ·rw [if_pos e1, if_neg (by rw [e1]; exact hne), if_pos e1]
       ·rw [if_neg e1, if_neg e1]
        by_cases e2 : x = b2
        ·rw [if_pos e2, e2, q3, T.get_set, if_pos rfl]
        ·rw [if_neg e2]; exact q2 x e2
theorem hasN_false {b : Nat} : ∀ {l : List Nat}, hasN b l = false → b ∉ l
 | [], _ => by simp
 | c :: l, h => by
  simp only [hasN, ite_eq_if] at h
  split at h
  ·cases h
  ·rename_i hc
   intro hm
   rcases List.mem_cons.1 hm with rfl | hm
   ·rw [Nat.beq_refl] at hc; exact hc rfl
   ·exact hasN_false h hm
theorem two_some {n1 n2 : Nat} {x1 y1 x2 y2 : AV} (h : two n1 x1 y1 n2 x2 y2 m = some m') : ∃ mA mB m2, hSto n1 m [x1, y1] = some (undefA, mA) ∧ hSto n2 mA [x2, y2] = some (undefA, m') ∧ hSto n2 m [x2, y2] = some (undefA, mB) ∧ hSto n1 mB [x1, y1] = some (undefA, m2) ∧ MemEq m2 m' := by
 unfold two at h
 split at h
 ·rename_i b1 o1 b2 o2
  split at h
  ·rename_i cls st ro fz c st2 ro2 fz2 c2 hb1 hb2
   split at h
   ·rename_i hor hand
    rw [Bool.or_eq_false_iff] at hor
    rw [Bool.and_eq_true] at hand
    obtain ⟨mA, h1, h2⟩ := onO_some h
    have hne : b1 ≠ b2 := by intro e; subst e; rw [Nat.beq_refl] at hor; cases hor.1
    obtain ⟨mB, m2, q1, q2, q3⟩ := storeL_comm hb1 hb2 hne (hasN_false hor.2) h1 h2
    refine ⟨mA, mB, m2, ?_, ?_, ?_, ?_, q3⟩
    ·simp only [hSto, hand.1, h1, onO_s]
    ·simp only [hSto, hand.2, h2, onO_s]
    ·simp only [hSto, hand.2, q1, onO_s]
    ·simp only [hSto, hand.1, q2, onO_s]
   ·cases h
  ·cases h
 ·cases h
end Go.Vm

namespace Go.Vm
open Go Go.RowKit
variable {P : Program} {mid : String → Option Nat} {mt : List (Nat × Nat × Nat)} {cf : CallF} {ex : List Nat} {ops : List Oper} {anc : Array Nat} {kn knF : List Known} {e : Env} {loc loc' : List AV} {d d' : List ADef} {m m' : Mem} {pn pn' : List PE} {RR : RRes} {hv : List Nat} {done here : Nat}
structure KnI (kn : List Known) (loc : List AV) (done : Nat) : Prop where
 kin : ∀ k ∈ kn, k.o.in loc.length
 bits : ∀ i, (∃ k, knownAt kn i = some k) ↔ done.testBit i = true
theorem KnI.none (h : KnI kn loc done) {i : Nat} (hb : done.testBit i = false) : knownAt kn i = none := by
 cases hk : knownAt kn i with
 | none => rfl
 | some k => have := (h.bits i).1 ⟨k, hk⟩; rw [hb] at this; cases this
theorem ext_refl (e : Env) (loc : List AV) : Ext e loc loc := ⟨Nat.le_refl _, fun _ _ => rfl⟩
theorem ext_cons (e : Env) (loc : List AV) (v : AV) : Ext e loc (v :: loc) := ⟨by simp, fun o h => val_cons h v⟩
theorem Ext.trans {l1 l2 l3 : List AV} (h : Ext e l1 l2) (k : Ext e l2 l3) : Ext e l1 l3 :=
 ⟨Nat.le_trans h.len k.len, fun o ho => by
  rw [k.val o, h.val o ho]
  cases o with
  | p q => exact Nat.lt_of_lt_of_le ho h.len
  | v t => trivial
  | c a => trivial⟩
theorem KnI.cons (h : KnI kn loc done) {k : Known} (hb : done.testBit k.i = false) (hx : Ext e loc loc') (hk : k.o.in loc'.length) : KnI (k :: kn) loc' (done + 2 ^ k.i) := by
 refine ⟨kin_ext hx h.kin hk, fun i => ?_⟩
 rw [bit_add k.i done i hb]
 by_cases hi : i = k.i
 ·subst hi; simp [knownAt_cons_eq]
 ·rw [knownAt_cons_ne (Ne.symm hi)]; simp [hi, h.bits]
theorem turn_parts {i : Nat} {o : Oper} (h : turnOk ops anc done i o = true) : done.testBit i = false ∧ (∀ j, (anc.getD i 0).testBit j = true → done.testBit j = true) ∧ ∀ t, o.dst = some t → writer ops t 0 = some i := by
 unfold turnOk at h
 rw [Bool.and_eq_true, Bool.and_eq_true] at h
 obtain ⟨⟨h1, h2⟩, h3⟩ := h
 refine ⟨by simpa using h1, fun j hj => land_all (Nat.eq_of_beq_eq_true h2) hj, ?_⟩
 intro t ht
 rw [ht] at h3
 simp only at h3
 split at h3
 ·rename_i j hj; rw [hj, Nat.eq_of_beq_eq_true h3]
 ·cases h3
theorem heavyAhead_all {i : Nat} : ∀ {l : List Nat}, heavyAhead anc i l = true → ∀ h ∈ l, (anc.getD i 0).testBit h = true
 | [], _, h, hm => by cases hm
 | a :: l, hh, h, hm => by
  simp only [heavyAhead, Bool.and_eq_true] at hh
  rcases List.mem_cons.1 hm with rfl | hm
  ·exact hh.1
  ·exact heavyAhead_all hh.2 h hm
inductive Parts (P : Program) (mid : String → Option Nat) (ex : List Nat) (ops : List Oper) (anc : Array Nat) (i : Nat) (σ : List Nat) (kn : List Known) (hv : List Nat) (done here : Nat) (o : Oper) (r : Option (List Stm × List Known × Nat)) : Prop where
 | alias (k : Known) (h1 : compOne P mid ex ops anc kn here i = some (k, none)) (h2 : compStms P mid ex ops anc σ (k :: kn) hv (done + 2 ^ i) here = r)
 | two (k : Known) (s s' : Stm) (j : Nat) (u : Oper) (kn' : List Known) (h1 : compOne P mid ex ops anc kn here i = some (k, some s)) (hσ : σ = [j]) (hu : ops[j]? = some u) (ht : turnOk ops anc done j u = true) (hh : heavyAhead anc j hv = true) (h2 : compTwo P mid ex ops anc kn here i j = some (kn', s'))
  (hd : done + 2 ^ i + 2 ^ j = 2 ^ ops.length - 1) (hr : r = some ([s'], kn', here + 2))
 | one (k : Known) (s : Stm) (h1 : compOne P mid ex ops anc kn here i = some (k, some s)) (hr : r = match compStms P mid ex ops anc σ (k :: kn) (match isLightS (some s) with | true => hv | false => i :: hv) (done + 2 ^ i) (here + 1) with
  | some (l, kn, here) => some (s :: l, kn, here)
  | none => none)
theorem comp_parts {i : Nat} {σ : List Nat} {x : List Stm × List Known × Nat} (h : compStms P mid ex ops anc (i :: σ) kn hv done here = some x) :
 ∃ o, ops[i]? = some o ∧ turnOk ops anc done i o = true ∧ heavyAhead anc i hv = true ∧ Parts P mid ex ops anc i σ kn hv done here o (some x) := by
 simp only [compStms] at h
 split at h
 ·cases h
 ·rename_i o ho
  split at h
  ·cases h
  ·rename_i ht
   rw [Bool.and_eq_true] at ht
   refine ⟨o, ho, ht.1, ht.2, ?_⟩
   split at h
   ·cases h
   ·rename_i k h1
    exact .alias k h1 h
   ·rename_i k s h1
    split at h
    ·rename_i kn' s' h2
     split at h2
     ·rename_i j
      split at h2
      ·rename_i u hu
       split at h2
       ·rename_i hc
        rw [Bool.and_eq_true, Bool.and_eq_true] at hc
        split at h
        ·rename_i hd
         exact .two k s s' j u kn' h1 rfl hu hc.1.1 hc.1.2 h2 (Nat.eq_of_beq_eq_true hd) h.symm
        ·cases h
       ·cases h2
      ·cases h2
     ·cases h2
    ·exact .one k s h1 h.symm
theorem compOne_i {k : Known} {i : Nat} {s : Option Stm} (h : compOne P mid ex ops anc kn here i = some (k, s)) : k.i = i := by
 unfold compOne at h
 split at h
 ·cases h
 ·rename_i o ho
  simp only at h
  split at h
  ·cases h
  ·split at h
   ·rename_i k' hk'
    cases h
    split at hk'
    ·split at hk'
     ·split at hk' <;> first | (cases hk'; rfl) | cases hk'
     ·cases hk'
    ·cases hk'
   ·split at h
    ·cases h; rfl
    ·split at h
     ·cases h; rfl
     ·cases h
    ·cases h
theorem later_ahead : ∀ {σ : List Nat} {kn : List Known} {hv : List Nat} {done here : Nat} {x : List Stm × List Known × Nat}, compStms P mid ex ops anc σ kn hv done here = some x → ∀ t, t < ops.length → done.testBit t = false → ∀ h ∈ hv, (anc.getD t 0).testBit h = true
 | [], kn, hv, done, here, x, hc, t, ht, hb => by
  simp only [compStms] at hc
  split at hc
  ·rename_i hd
   rw [Nat.eq_of_beq_eq_true hd, Nat.testBit_two_pow_sub_one] at hb
   simp [ht] at hb
  ·cases hc
 | i :: σ, kn, hv, done, here, x, hc, t, ht, hb => by
  obtain ⟨o, ho, h1, h2, hp⟩ := comp_parts hc
  obtain ⟨hb1, _, _⟩ := turn_parts h1
  by_cases hti : t = i
  ·subst hti; exact heavyAhead_all h2
  ·have hb' : (done + 2 ^ i).testBit t = false := by rw [bit_add i done t hb1]; simp [hti, hb]
   cases hp with
   | alias k _ h => exact later_ahead h t ht hb'
   | two k s s' j u kn' _ hσ hu ht' hh _ hd =>
    have hbj := (turn_parts ht').1
    by_cases htj : t = j
    ·subst htj; exact heavyAhead_all hh
    ·exfalso
     have hbij : (done + 2 ^ i).testBit j = false := by
      cases hji : decide (j = i) with
      | false => rw [bit_add i done j hb1, hji, hbj]; rfl
      | true =>
       have : j = i := by simpa using hji
       subst this
       have hlt : j < ops.length := (List.getElem?_eq_some_iff.1 hu).1
       have e2 : done + 2 ^ j + 2 ^ j = 2 ^ ops.length - 1 := hd
       have e3 : done + 2 ^ (j + 1) = 2 ^ ops.length - 1 := by rw [Nat.pow_succ]; omega
       have hbits := Nat.testBit_two_pow_sub_one ops.length j
       rw [← e3] at hbits
       have : (done + 2 ^ (j + 1)).testBit j = done.testBit j := by
        rw [Nat.add_comm, Nat.testBit_two_pow_add_gt (Nat.lt_succ_self j)]
       rw [this, hbj] at hbits
       simp [hlt] at hbits
     have := Nat.testBit_two_pow_sub_one ops.length t
     rw [← hd, bit_add j _ t hbij, hb'] at this
     simp [htj, ht] at this
   | one k s _ hr =>
    split at hr
    ·rename_i l kn1 here1 hrec
     intro h hm
     refine later_ahead hrec t ht hb' h ?_
     split
     ·exact hm
     ·exact List.mem_cons_of_mem _ hm
    ·cases hr
end Go.Vm
