/- The canonizers, text.Valid and EvalCanon, walked; EvalCanon's walk takes its callees' contracts as hypotheses. No other condition. -/
import Derived.Test.YtfieklkhbihhoaaGreatDoorProg
import Derived.Test.YtfieklkhbihhoaaGreatDoorVc
import Derived.WalkKit
import Derived.Handy
import Derived.Shelf.Strings.SlTrimAscii
import Derived.Lib.ConvBytes
import Derived.Deep.RegionHeld3
namespace Go.Proofs.YtfieklkhbihhoaaGreatDoor
open Go Go.RowKit Go.Vm
set_option maxRecDepth 1000000
def rowF (c : Int) : Int × Int × Int :=
  if (c / 128 == 0) = true then (1, c, 0) else if (c / 32 == 6) = true then (2, c % 32, 128) else if (c / 16 == 14) = true then (3, c % 16, 2048)
  else if (c / 8 == 30) = true then (4, c % 8, 65536) else (0, 0, 0)
theorem row_at (c : Int) (h : 0 ≤ c ∧ c ≤ 255) (w : World) : Calls Tryz.prog 216 #[.int .u8 c] w fun e w' => e = .returned (.tuple #[.int .i64 (rowF c).1, .int .i64 (rowF c).2.1, .int .i64 (rowF c).2.2]) ∧ w' = w := by
  go_enter Tryz.func216, Tryz.ntmps216
  go_wp2
  all_goals go_returns
  all_goals refine ⟨?_, rfl⟩
  all_goals simp [rowF, *]
def charF (r : Int) : Bool := decide (0 ≤ r) && (decide (r ≤ 1114111) && (decide (r < 55296) || decide (57343 < r)))
theorem char_at (r : Int) (w : World) : Calls Tryz.prog 217 #[.int .i64 r] w fun e w' => e = .returned (.bool (charF r)) ∧ w' = w := by
  go_enter Tryz.func217, Tryz.ntmps217
  go_wp2
  all_goals go_returns
  all_goals refine ⟨?_, rfl⟩
  all_goals (simp [charF, *] <;> omega)
/-- the character's number behind k of its bytes -/
def accF (s : ByteArray) (b0 : Int) : Nat → Int
  | 0 => b0
  | k + 1 => bits .or .i64 (wrap64 (accF s b0 k * 64)) (wrap64 (bits .and .u8 ((s.get! (k + 1)).toNat : Int) 63))
def contB (s : ByteArray) : Nat → Bool
  | 0 => true
  | k + 1 => contB s k && ((s.get! (k + 1)).toNat : Int) / 64 == 2
def firstN (s : ByteArray) (F : Int × Int × Int) : Int :=
  if F.1 = 0 then 0 else if (s.size : Int) < F.1 then 0 else if contB s (F.1.toNat - 1) = false then 0
  else if accF s F.2.1 (F.1.toNat - 1) < F.2.2 then 0 else if charF (accF s F.2.1 (F.1.toNat - 1)) = true then F.1 else 0
theorem rowF_n (c : Int) : (rowF c).1 = 0 ∨ (rowF c).1 = 1 ∨ (rowF c).1 = 2 ∨ (rowF c).1 = 3 ∨ (rowF c).1 = 4 := by
  unfold rowF
  repeat' split
  all_goals simp
theorem get_at (s : ByteArray) (i : Nat) (h : i < s.size) : s.get! i = s[i] := by
  cases s with
  | mk d =>
    show d[i]! = d[i]'h
    exact getElem!_pos d i h
theorem contB_get {s : ByteArray} : ∀ {m : Nat}, contB s m = true → ∀ j, j < m → ((s.get! (j + 1)).toNat : Int) / 64 = 2
  | 0, _, j, hj => absurd hj (Nat.not_lt_zero j)
  | m + 1, h, j, hj => by
    unfold contB at h
    rw [Bool.and_eq_true] at h
    rcases Nat.lt_succ_iff_lt_or_eq.1 hj with h1 | rfl
    · exact contB_get h.1 j h1
    · exact by simpa using h.2
theorem first_walk (s : ByteArray) (hs : s.size ≤ 4294967296) (h0 : 0 < s.size) (w : World) : Calls Tryz.prog 137 #[.string s] w fun e w' => (∃ r, e = .returned (.tuple #[.int .i64 r, .int .i64 (firstN s (rowF (s[0].toNat : Int)))])) ∧ w' = w := by
  have he : s.toList.isEmpty = false := by
    cases hq : s.toList.isEmpty with
    | false => rfl
    | true =>
      have h1 : s.toList = [] := by simpa using hq
      rw [ByteArray.toList_eq] at h1
      have h2 : s.size = 0 := by show s.data.size = 0; rw [← Array.length_toList, h1]; rfl
      omega
  have hrow := row_at (s[0].toNat : Int) (by have := s[0].toNat_lt; omega) w
  have hn := rowF_n (s[0].toNat : Int)
  generalize hF : rowF (s[0].toNat : Int) = F at hrow hn
  obtain ⟨n, b, l⟩ := F
  simp only at hrow hn
  clear hF
  go_enter Tryz.func137, Tryz.ntmps137
  go_wp2_with fail
  go_call hrow as e w' ⟨he, hb⟩
  subst he; subst hb
  go_wp2_with fail
  · have h1 : n = 0 := by assumption
    go_returns
    refine ⟨⟨0, ?_⟩, rfl⟩
    simp [firstN, h1]
  · have h1 : ¬ n = 0 := by assumption
    have h2 : (n == 0) = true ∨ (s.size : Int) < n := by assumption
    go_returns
    refine ⟨⟨0, ?_⟩, rfl⟩
    have : (s.size : Int) < n := by
      rcases h2 with h2 | h2
      · exact absurd (by simpa using h2) h1
      · exact h2
    simp [firstN, h1, this]
  · have h1 : ¬ n = 0 := by assumption
    have h2 : (n == 0) = false ∧ n ≤ (s.size : Int) := by assumption
    have hsz : ¬ (s.size : Int) < n := by have := h2.2; omega
    simp only [h2.1, Bool.false_or]
    go_loopw [2, 3, 5] (fun r nn i wr => ∃ k : Nat, (k : Int) + 1 ≤ n ∧ i = .int .i64 (k + 1) ∧ nn = .int .i64 n ∧ r = .int .i64 (accF s b k) ∧ Hid (contB s k = true) ∧ wr = w') (fun _ _ i _ => n.toNat - (intOf i).toNat)
    case atStart => exact ⟨0, by omega, rfl, rfl, rfl, (show contB s 0 = true from rfl), rfl⟩
    case round =>
      obtain ⟨k, hk, rfl, rfl, rfl, hc, rfl⟩ := hrel
      go_wp2_with fail
      · have h3 : (k : Int) + 1 < n := by assumption
        have h5 : ((s[k + 1].toNat : Int) / 64 != 2) = true := by assumption
        go_returns
        refine ⟨⟨0, ?_⟩, rfl⟩
        have hf : contB s (n.toNat - 1) = false := by
          rw [Bool.eq_false_iff]
          intro hq
          have := contB_get hq k (by omega)
          rw [get_at s (k + 1) (by omega)] at this
          simp [this] at h5
        simp [firstN, h1, hf]
      · have h3 : (k : Int) + 1 < n := by assumption
        have h5 : ((s[k + 1].toNat : Int) / 64 != 2) = false := by assumption
        go_roundw
        case rel =>
          refine ⟨k + 1, ?_, ?_, rfl, ?_, ?_, trivial⟩
          · omega
          · simp
          · simp only [accF]
            rw [get_at s (k + 1) (by omega)]
          · show contB s (k + 1) = true
            simp only [contB]
            rw [hc.out, get_at s (k + 1) (by omega)]
            simpa using h5
        case measure =>
          show n.toNat - (intOf (.int .i64 ((k : Int) + 1 + 1))).toNat < n.toNat - (intOf (.int .i64 ((k : Int) + 1))).toNat
          simp only [intOf]
          omega
      · have h3 : n ≤ (k : Int) + 1 := by assumption
        have h4 : l ≤ accF s b k := by assumption
        go_call (char_at (accF s b k) wr) as e w' ⟨he, hb⟩
        subst he; subst hb
        have hkn : n.toNat - 1 = k := by omega
        cases hch : charF (accF s b k) with
        | true =>
          simp only []
          go_wp2_with fail
          go_returns
          refine ⟨⟨accF s b k, ?_⟩, rfl⟩
          have : ¬ accF s b k < l := by omega
          simp [firstN, h1, hsz, hkn, hc.out, this, hch]
        | false =>
          simp only []
          go_wp2_with fail
          go_returns
          refine ⟨⟨0, ?_⟩, rfl⟩
          simp [firstN, h1, hkn, hc.out, hch]
      · have h3 : n ≤ (k : Int) + 1 := by assumption
        have h4 : accF s b k < l := by assumption
        have hkn : n.toNat - 1 = k := by omega
        go_returns
        refine ⟨⟨0, ?_⟩, rfl⟩
        simp [firstN, h1, hkn, hc.out, h4]
end Go.Proofs.YtfieklkhbihhoaaGreatDoor

namespace Go.Proofs.YtfieklkhbihhoaaGreatDoor
open Go Go.RowKit Go.Vm
set_option maxRecDepth 1000000
theorem firstN_le (s : ByteArray) (c : Int) (h0 : 0 < s.size) : 0 ≤ firstN s (rowF c) ∧ firstN s (rowF c) ≤ s.size := by
  have hn := rowF_n c
  unfold firstN
  repeat' split
  all_goals omega
/-- how many bytes the character has that begins at a place; 0: none stands there -/
def nextN (s : ByteArray) (k : Nat) : Int := if h : 0 < (s.extract k s.size).size then firstN (s.extract k s.size) (rowF ((s.extract k s.size)[0].toNat : Int)) else 0
theorem nextN_le (s : ByteArray) (k : Nat) (hk : k ≤ s.size) : 0 ≤ nextN s k ∧ nextN s k + k ≤ s.size := by
  unfold nextN
  split
  · rename_i h
    have h1 := firstN_le (s.extract k s.size) ((s.extract k s.size)[0].toNat : Int) h
    have h2 : (s.extract k s.size).size = s.size - k := by rw [ByteArray.size_extract]; omega
    omega
  · omega
def badF (s : ByteArray) : Nat → Nat → Int
  | 0, _ => -1
  | f + 1, k => if k < s.size then (if nextN s k = 0 then (k : Int) else badF s f (k + (nextN s k).toNat)) else -1
theorem bad_walk (s : ByteArray) (hs : s.size ≤ 4294967296) (w : World) : Calls Tryz.prog 84 #[.string s] w fun e w' => e = .returned (.int .i64 (badF s (s.size + 1) 0)) ∧ w' = w := by
  have hfirst : ∀ k, k < s.size → Calls Tryz.prog 137 #[.string (s.extract k s.size)] w fun e w' => (∃ r, e = .returned (.tuple #[.int .i64 r, .int .i64 (nextN s k)])) ∧ w' = w := by
    intro k hk
    have h2 : (s.extract k s.size).size = s.size - k := by rw [ByteArray.size_extract]; omega
    have h3 : 0 < (s.extract k s.size).size := by omega
    have := first_walk (s.extract k s.size) (by omega) h3 w
    unfold nextN
    rw [dif_pos h3]
    exact this
  go_enter Tryz.func84, Tryz.ntmps84
  go_wp2_with fail
  go_loopw [3] (fun i wr => ∃ k f : Nat, k ≤ s.size ∧ i = .int .i64 k ∧ s.size < k + f ∧ Hid (badF s f k = badF s (s.size + 1) 0) ∧ wr = w) (fun i _ => s.size - (intOf i).toNat)
  case atStart => exact ⟨0, s.size + 1, Nat.zero_le _, rfl, by omega, (show badF s (s.size + 1) 0 = _ from rfl), rfl⟩
  case round =>
    obtain ⟨k, f, hk, rfl, hf, hb, rfl⟩ := hrel
    go_wp2_with fail
    · have hlt' : k < s.size := by assumption
      have hlt : (k : Int) < s.size := by omega
      have hnx := nextN_le s k hk
      have hcall := hfirst k hlt'
      obtain ⟨g, rfl⟩ : ∃ g, f = g + 1 := ⟨f - 1, by omega⟩
      go_call hcall as e w' ⟨⟨r, he⟩, hw⟩
      subst he; subst hw
      go_wp2_with fail
      · have h0 : nextN s k = 0 := by simpa using (show (nextN s k == 0) = true by assumption)
        go_returns
        refine ⟨?_, rfl⟩
        rw [← hb.out]
        simp [badF, hlt', h0]
      · have h0 : ¬ nextN s k = 0 := by simpa using (show (nextN s k == 0) = false by assumption)
        refine ⟨⟨k + (nextN s k).toNat, g, by omega, ?_, by omega, ?_, trivial⟩, ?_⟩
        · have : (k : Int) + nextN s k = ((k + (nextN s k).toNat : Nat) : Int) := by omega
          rw [this]
        · show badF s g (k + (nextN s k).toNat) = _
          rw [← hb.out]
          simp [badF, hlt', h0]
        · simp only [intOf]
          omega
    · have hlt' : ¬ k < s.size := by assumption
      obtain ⟨g, rfl⟩ : ∃ g, f = g + 1 := ⟨f - 1, by omega⟩
      go_returns
      refine ⟨?_, rfl⟩
      rw [← hb.out]
      simp [badF, hlt']
def validF (s : ByteArray) : Bool := decide (badF s (s.size + 1) 0 < 0)
theorem valid_walk (s : ByteArray) (hs : s.size ≤ 4294967296) (w : World) : Calls Tryz.prog 47 #[.string s] w fun e w' => e = .returned (.bool (validF s)) ∧ w' = w := by
  go_enter Tryz.func47, Tryz.ntmps47
  go_wp2_with fail
  go_call (bad_walk s hs w) as e w' ⟨he, hw⟩
  subst he; subst hw
  go_wp2_with fail
  go_returns
  exact ⟨rfl, rfl⟩
end Go.Proofs.YtfieklkhbihhoaaGreatDoor

namespace Go.Proofs.YtfieklkhbihhoaaGreatDoor
open Go Go.RowKit Go.Vm Go.Shelf
set_option maxRecDepth 1000000
def ren160 : Ren := ⟨fun x => match x with | 160 => 10 | 232 => 33 | 231 => 32 | 227 => 34 | 234 => 36 | 233 => 35 | 236 => 38 | 235 => 37 | 228 => 79 | 271 => 82 | 151 => 81 | 197 => 80 | 120 => 136 | 152 => 135 | 260 => 134 | 137 => 212 | 119 => 213 | 224 => 214 | 225 => 215 | 217 => 266 | 266 => 299 | n => n, fun x => match x with | 9 => 9 | 4 => 4 | 3 => 3 | 5 => 5 | 117 => 82 | 116 => 81 | 0 => 0 | 124 => 85 | 21 => 21 | 105 => 134 | 46 => 252 | 119 => 258 | 139 => 261 | 138 => 260 | n => n, fun x => match x with | 3 => 0 | 4 => 1 | n => n⟩
theorem lays160 : Lays.n160 Tryz.prog ren160 := { mixed := by kernel_rfl, f119 := Tryz.func213, f120 := Tryz.func136, f137 := Tryz.func212, f151 := Tryz.func81, f152 := Tryz.func135, f160 := Tryz.func10, f197 := Tryz.func80, f217 := Tryz.func266, f224 := Tryz.func214, f225 := Tryz.func215, f227 := Tryz.func34, f228 := Tryz.func79, f231 := Tryz.func32, f232 := Tryz.func33, f233 := Tryz.func35, f234 := Tryz.func36, f235 := Tryz.func37, f236 := Tryz.func38, f260 := Tryz.func134, f266 := Tryz.func299, f271 := Tryz.func82, t0 := Tryz.underlying0, a0 := Tryz.isAgg0, z0 := Tryz.sizeOf0, v0 := Tryz.zeroValue0, t3 := Tryz.underlying3, a3 := Tryz.isAgg3, z3 := Tryz.sizeOf3, v3 := Tryz.zeroValue3, t4 := Tryz.underlying4, a4 := Tryz.isAgg4, z4 := Tryz.sizeOf4, v4 := Tryz.zeroValue4, t5 := Tryz.underlying5, a5 := Tryz.isAgg5, z5 := Tryz.sizeOf5, v5 := Tryz.zeroValue5, t9 := Tryz.underlying9, a9 := Tryz.isAgg9, z9 := Tryz.sizeOf9, v9 := Tryz.zeroValue9, t21 := Tryz.underlying21, a21 := Tryz.isAgg21, z21 := Tryz.sizeOf21, v21 := Tryz.zeroValue21, t46 := Tryz.underlying252, a46 := Tryz.isAgg252, z46 := Tryz.sizeOf252, v46 := Tryz.zeroValue252, t105 := Tryz.underlying134, a105 := Tryz.isAgg134, z105 := Tryz.sizeOf134, v105 := Tryz.zeroValue134, t116 := Tryz.underlying81, a116 := Tryz.isAgg81, z116 := Tryz.sizeOf81, t117 := Tryz.underlying82, a117 := Tryz.isAgg82, z117 := Tryz.sizeOf82, v117 := Tryz.zeroValue82, t119 := Tryz.underlying258, a119 := Tryz.isAgg258, z119 := Tryz.sizeOf258, t124 := Tryz.underlying85, a124 := Tryz.isAgg85, z124 := Tryz.sizeOf85, v124 := Tryz.zeroValue85, t138 := Tryz.underlying260, a138 := Tryz.isAgg260, z138 := Tryz.sizeOf260, v138 := Tryz.zeroValue260, t139 := Tryz.underlying261, a139 := Tryz.isAgg261, z139 := Tryz.sizeOf261, v139 := Tryz.zeroValue261, g3 := by kernel_rfl, g4 := by kernel_rfl }
/-- what trim leaves of a text -/
def trimF (s : ByteArray) : ByteArray := ⟨(Lib.trimS s.data.toList [9, 10, 13, 32]).toArray⟩
theorem trim_at (s : ByteArray) (hs : s.size ≤ 4294967296) (w : World) : Calls Tryz.prog 10 #[.string s, .string ⟨#[9, 10, 13, 32]⟩] w fun e w' => e = .returned (.string (trimF s)) ∧ Below w.heap.size w w' := by
  by_cases h0 : 0 < s.size
  · refine (Any.strings_Trim_set lays160 (fun w => by kernel_rfl) (by kernel_rfl) s ⟨#[9, 10, 13, 32]⟩ w (by decide) h0 (by omega) (by decide) ?_).mono ?_
    · intro j b hj
      match j, hj with
      | 0, hj => cases hj; decide
      | 1, hj => cases hj; decide
      | 2, hj => cases hj; decide
      | 3, hj => cases hj; decide
      | j + 4, hj => cases hj
    · rintro e w' ⟨rfl, q, rfl⟩
      refine ⟨rfl, ?_⟩
      have h1 := (Below.refl w.heap.size w).alloc (Nat.le_refl _) (.cells (Lib.setCells (⟨#[9, 10, 13, 32]⟩ : ByteArray).data.toList) (ren160.t 116))
      have h2 := h1.alloc (by rw [World.size_alloc]; omega) (.cells (Lib.setCells (⟨#[9, 10, 13, 32]⟩ : ByteArray).data.toList) (ren160.t 116))
      exact ⟨h2.os, h2.tape, h2.output, h2.size, h2.block⟩
  · have he : s = ⟨#[]⟩ := by
      cases s with
      | mk d => cases d with | mk l => cases l with
        | nil => rfl
        | cons a l => exact absurd (Nat.succ_pos _) h0
    subst he
    go_enter Tryz.func10, Tryz.ntmps10
    go_wp2_with fail
    go_returns
    exact ⟨rfl, Below.refl _ _⟩
theorem canon_trim (s : ByteArray) (hs : s.size ≤ 4294967296) (w : World) : Calls Tryz.prog 4 #[.string ⟨#[116, 114, 105, 109]⟩, .string s] w fun e w' => e = .returned (.string (trimF s)) ∧ Below w.heap.size w w' := by
  go_enter Tryz.func4, Tryz.ntmps4
  go_wp2_with fail
  go_call (trim_at s hs w) as e w' ⟨he, hb⟩
  subst he
  go_wp2_with fail
  go_returns
  exact ⟨rfl, hb⟩
end Go.Proofs.YtfieklkhbihhoaaGreatDoor

namespace Go.Proofs.YtfieklkhbihhoaaGreatDoor
open Go Go.RowKit Go.Vm Go.Shelf
set_option maxRecDepth 1000000
def lowB (c : Int) : Int := if 65 ≤ c ∧ c ≤ 90 then c + 32 else c
def byteAt (s : ByteArray) (j : Nat) : Int := (s.data.toList.getD j 0).toNat
structure LowR (w : World) (s : ByteArray) (k : Nat) (wr : World) : Prop where
  low : Below w.heap.size w wr
  done : ∀ j, j < k → wr.cell? ⟨w.heap.size, j, none⟩ = some (.int .u8 (lowB (byteAt s j)))
  todo : ∀ j, k ≤ j → j < s.size → wr.cell? ⟨w.heap.size, j, none⟩ = some (.int .u8 (byteAt s j))
  free : ∀ j, j < s.size → wr.frozen? ⟨w.heap.size, j, none⟩ = false
theorem LowR.keep {w wr : World} {s : ByteArray} {k : Nat} (h : LowR w s k wr) (hk : k < s.size) (he : lowB (byteAt s k) = byteAt s k) : LowR w s (k + 1) wr :=
  ⟨h.low, fun j hj => by
    rcases Nat.lt_succ_iff_lt_or_eq.1 hj with h1 | rfl
    · exact h.done j h1
    · rw [he]; exact h.todo j (Nat.le_refl _) hk, fun j h1 h2 => h.todo j (by omega) h2, h.free⟩
theorem LowR.set {w wr : World} {s : ByteArray} {k : Nat} (h : LowR w s k wr) (hk : k < s.size) : LowR w s (k + 1) (wr.setCell ⟨w.heap.size, k, none⟩ (.int .u8 (lowB (byteAt s k)))) := by
  have hc := h.todo k (Nat.le_refl _) hk
  refine ⟨h.low.setCell (p := ⟨w.heap.size, k, none⟩) (Nat.le_refl _) _, ?_, ?_, ?_⟩
  · intro j hj
    by_cases e : j = k
    · subst e
      exact World.cell?_setCell_same _ _ _ hc
    · rw [World.cell?_setCell_other _ _ _ _ (by intro q; cases q; exact e rfl)]
      exact h.done j (by omega)
  · intro j h1 h2
    rw [World.cell?_setCell_other _ _ _ _ (by intro q; cases q; omega)]
    exact h.todo j (by omega) h2
  · intro j hj
    rw [World.frozen?_setCell]
    exact h.free j hj
def lowF (s : ByteArray) : ByteArray := ((List.range s.size).map fun j => lowB (byteAt s j)).foldl (fun r n => r.push (UInt8.ofNat n.toNat)) ByteArray.empty
theorem canon_lower (s : ByteArray) (hs : s.size ≤ 4294967296) (w : World) : Calls Tryz.prog 4 #[.string ⟨#[108, 111, 119, 101, 114]⟩, .string s] w fun e w' => e = .returned (.string (lowF s)) ∧ Below w.heap.size w w' := by
  have hconv := Go.Lib.run_convert_string_bytes (P := Tryz.prog) w 9 39 5 s Tryz.underlying9 Tryz.underlying39 Tryz.underlying5
  have hst : LowR w s 0 (Go.Lib.bytesWorld w 5 s) := by
    refine ⟨⟨rfl, rfl, rfl, by rw [Go.Lib.bytesWorld_size]; omega, fun j hj => Go.Lib.bytesWorld_at_old w 5 s j hj⟩, fun j hj => absurd hj (Nat.not_lt_zero _), fun j _ hj => Go.Lib.bytesWorld_cell w 5 s j hj, ?_⟩
    intro j hj
    have h1 : s.size ≤ (Go.Lib.bytesCells w 5 s).size := by unfold Go.Lib.bytesCells; rw [Array.size_append, Array.size_map]; exact Nat.le_add_right _ _
    simp only [World.frozen?, Go.Lib.bytesWorld_at_new]
    rw [Bool.eq_false_iff]
    simp
    omega
  generalize hcap : grownCap w s.size 0 5 = cap at hconv
  generalize Go.Lib.bytesWorld w 5 s = W1 at hconv hst
  go_enter Tryz.func4, Tryz.ntmps4
  go_wp2_with fail
  go_loopw [19] (fun i wr => ∃ k : Nat, k ≤ s.size ∧ i = .int .i64 k ∧ LowR w s k wr) (fun i _ => s.size - (intOf i).toNat)
  case atStart => exact ⟨0, Nat.zero_le _, rfl, hst⟩
  case round =>
    obtain ⟨k, hk, rfl, hR⟩ := hrel
    by_cases hlt : k < s.size
    · have hc := hR.todo k (Nat.le_refl _) hlt
      have hf := hR.free k hlt
      have hb : 0 ≤ byteAt s k ∧ byteAt s k ≤ 255 := by unfold byteAt; have := (s.data.toList.getD k 0).toNat_lt; omega
      have hset := hR.set hlt
      have hkeep := hR.keep hlt
      generalize hcc : byteAt s k = c at hc hb hset hkeep
      unfold lowB at hset hkeep
      go_wp2_with fail
      · have h1 : 65 ≤ c := by assumption
        have h2 : c ≤ 90 := by assumption
        rw [if_pos ⟨h1, h2⟩] at hset
        refine ⟨⟨k + 1, by omega, by simp, ?_⟩, by simp only [intOf]; omega⟩
        rw [show c - 65 + 97 = c + 32 by omega]
        exact hset
      · have h2 : 90 < c := by assumption
        exact ⟨⟨k + 1, by omega, by simp, hkeep (if_neg (by omega))⟩, by simp only [intOf]; omega⟩
      · have h2 : ¬ 65 ≤ c := by assumption
        exact ⟨⟨k + 1, by omega, by simp, hkeep (if_neg (by omega))⟩, by simp only [intOf]; omega⟩
    · obtain rfl : k = s.size := by omega
      have hcv : (convert 39 9 (.slice (some ⟨w.heap.size, 0, none⟩) s.size cap)).run Tryz.prog wr = .ok (.string (lowF s)) wr := by
        rw [run_convert_bytes_string _ 39 9 5 _ _ _ Tryz.underlying39 Tryz.underlying5 Tryz.underlying9]
        refine run_bytesToString _ _ s.size cap _ ?_
        rw [List.map_map]
        refine run_loadCells _ _ s.size (fun j => .int .u8 (lowB (byteAt s j))) fun j hj => ?_
        have ha : (⟨w.heap.size, 0, none⟩ : Addr).add j = ⟨w.heap.size, j, none⟩ := by
          unfold Addr.add
          by_cases h0 : j = 0
          · subst h0; simp
          · simp [h0]
        rw [ha]
        exact hR.done j hj
      go_wp2_with fail
      go_returns
      exact ⟨rfl, hR.low⟩
end Go.Proofs.YtfieklkhbihhoaaGreatDoor

namespace Go.Proofs.YtfieklkhbihhoaaGreatDoor
open Go Go.RowKit Go.Vm Go.Shelf
set_option maxRecDepth 1000000
def blankB (c : Int) : Bool := c == 9 || c == 10 || c == 13 || c == 32
theorem blank_at (c : Int) (w : World) : Calls Tryz.prog 11 #[.int .u8 c] w fun e w' => e = .returned (.bool (blankB c)) ∧ w' = w := by
  go_enter Tryz.func11, Tryz.ntmps11
  go_wp2
  all_goals go_returns
  all_goals refine ⟨?_, rfl⟩
  all_goals simp_all [blankB]
theorem byteAt_get (s : ByteArray) (k : Nat) (h : k < s.size) : ((s[k]'h).toNat : Int) = byteAt s k := by
  unfold byteAt
  have h2 : k < s.data.toList.length := by rw [Array.length_toList]; exact h
  rw [List.getD_eq_getElem?_getD, List.getElem?_eq_getElem h2]
  rfl
theorem ref_trim (s : ByteArray) (hs : s.size ≤ 4294967296) (w : World) : Calls Tryz.prog 5 #[.string ⟨#[116, 114, 105, 109]⟩, .string s] w fun e w' => (∃ k m, k ≤ m ∧ m ≤ s.size ∧ (∀ j, j < k → blankB (byteAt s j) = true) ∧ (k = m ∨ blankB (byteAt s k) = false) ∧ (∀ j, m ≤ j → j < s.size → blankB (byteAt s j) = true) ∧ (k = m ∨ blankB (byteAt s (m - 1)) = false) ∧ e = .returned (.string (s.extract k m))) ∧ w' = w := by
  go_enter Tryz.func5, Tryz.ntmps5
  go_wp2_with fail
  go_loopw [5] (fun i wr => ∃ k : Nat, k ≤ s.size ∧ i = .int .i64 k ∧ Hid (∀ j, j < k → blankB (byteAt s j) = true) ∧ wr = w) (fun i _ => s.size - (intOf i).toNat)
  case atStart => exact ⟨0, Nat.zero_le _, rfl, (show ∀ j, j < 0 → _ from fun j hj => absurd hj (Nat.not_lt_zero _)), rfl⟩
  case round =>
    obtain ⟨k, hk, rfl, hA, rfl⟩ := hrel
    by_cases hlt : k < s.size
    · have hbl := blank_at (byteAt s k) wr
      rw [← byteAt_get s k hlt] at hbl
      generalize hc : blankB ((s[k]'hlt).toNat : Int) = c at hbl
      rw [byteAt_get s k hlt] at hc
      go_wp2_with fail
      go_call hbl as e w' ⟨he, hw⟩
      subst he; subst hw
      cases c with
      | true =>
        go_wp2_with fail
        refine ⟨⟨k + 1, by omega, by simp, ?_, trivial⟩, by simp only [intOf]; omega⟩
        intro j hj
        rcases Nat.lt_succ_iff_lt_or_eq.1 hj with h1 | rfl
        · exact hA.out j h1
        · exact hc
      | false =>
        go_wp2_with fail
        go_loopw [6] (fun i wr => ∃ m : Nat, k ≤ m ∧ m ≤ s.size ∧ i = .int .i64 m ∧ Hid (∀ j, m ≤ j → j < s.size → blankB (byteAt s j) = true) ∧ wr = w') (fun i _ => (intOf i).toNat)
        case atStart => exact ⟨s.size, hk, Nat.le_refl _, rfl, (show ∀ j, s.size ≤ j → _ from fun j h1 h2 => absurd h2 (by omega)), rfl⟩
        case round =>
          obtain ⟨m, hkm, hm, rfl, hM, rfl⟩ := hrel
          by_cases hlt2 : k < m
          · have hlt3 : m - 1 < s.size := by omega
            have hbl2 := blank_at (byteAt s (m - 1)) wr
            generalize hc2 : blankB (byteAt s (m - 1)) = c2 at hbl2
            rw [← byteAt_get s (m - 1) hlt3] at hbl2
            have hcast : ((m : Int) - 1) = ((m - 1 : Nat) : Int) := by omega
            go_wp2_with fail
            go_call hbl2 as e w' ⟨he, hw⟩
            subst he; subst hw
            cases c2 with
            | true =>
              go_wp2_with fail
              refine ⟨⟨m - 1, by omega, by omega, by simp, ?_, trivial⟩, by simp only [intOf]; omega⟩
              intro j h1 h2
              by_cases e : j = m - 1
              · subst e; exact hc2
              · exact hM.out j (by omega) h2
            | false =>
              go_wp2_with fail
              go_returns
              exact ⟨⟨k, m, hkm, hm, hA.out, .inr hc, hM.out, .inr hc2, rfl⟩, rfl⟩
          · go_wp2_with fail
            go_returns
            refine ⟨⟨k, m, hkm, hm, hA.out, .inl (by omega), hM.out, .inl (by omega), ?_⟩, rfl⟩
            rfl
    · obtain rfl : k = s.size := by omega
      go_wp2_with fail
      refine wp_loop_rounds 1 ?_
      rw [rounds_succ]
      go_wp2_with fail
      go_returns
      have hex : s.extract s.size s.size = ByteArray.empty := by
        have : (s.extract s.size s.size).size = 0 := by rw [ByteArray.size_extract]; omega
        exact ByteArray.size_eq_zero_iff.1 this
      exact ⟨⟨s.size, s.size, Nat.le_refl _, Nat.le_refl _, hA.out, .inl rfl, fun j h1 h2 => absurd h2 (by omega), .inl rfl, by rw [hex]; rfl⟩, rfl⟩
end Go.Proofs.YtfieklkhbihhoaaGreatDoor

namespace Go.Proofs.YtfieklkhbihhoaaGreatDoor
open Go Go.RowKit Go.Vm Go.Shelf
set_option maxRecDepth 1000000
theorem ref_lower (s : ByteArray) (hs : s.size ≤ 4294967296) (w : World) : Calls Tryz.prog 5 #[.string ⟨#[108, 111, 119, 101, 114]⟩, .string s] w fun e w' => e = .returned (.string (lowF s)) ∧ Below w.heap.size w w' := by
  have hconv := Go.Lib.run_convert_string_bytes (P := Tryz.prog) w 9 39 5 s Tryz.underlying9 Tryz.underlying39 Tryz.underlying5
  have hst : LowR w s 0 (Go.Lib.bytesWorld w 5 s) := by
    refine ⟨⟨rfl, rfl, rfl, by rw [Go.Lib.bytesWorld_size]; omega, fun j hj => Go.Lib.bytesWorld_at_old w 5 s j hj⟩, fun j hj => absurd hj (Nat.not_lt_zero _), fun j _ hj => Go.Lib.bytesWorld_cell w 5 s j hj, ?_⟩
    intro j hj
    have h1 : s.size ≤ (Go.Lib.bytesCells w 5 s).size := by unfold Go.Lib.bytesCells; rw [Array.size_append, Array.size_map]; exact Nat.le_add_right _ _
    simp only [World.frozen?, Go.Lib.bytesWorld_at_new]
    rw [Bool.eq_false_iff]
    simp
    omega
  generalize hcap : grownCap w s.size 0 5 = cap at hconv
  generalize Go.Lib.bytesWorld w 5 s = W1 at hconv hst
  go_enter Tryz.func5, Tryz.ntmps5
  go_wp2_with fail
  go_loopw [8] (fun i wr => ∃ k : Nat, k ≤ s.size ∧ i = .int .i64 k ∧ LowR w s k wr) (fun i _ => s.size - (intOf i).toNat)
  case atStart => exact ⟨0, Nat.zero_le _, rfl, hst⟩
  case round =>
    obtain ⟨k, hk, rfl, hR⟩ := hrel
    by_cases hlt : k < s.size
    · have hc := hR.todo k (Nat.le_refl _) hlt
      have hf := hR.free k hlt
      have hb : 0 ≤ byteAt s k ∧ byteAt s k ≤ 255 := by unfold byteAt; have := (s.data.toList.getD k 0).toNat_lt; omega
      have hset := hR.set hlt
      have hkeep := hR.keep hlt
      generalize hcc : byteAt s k = c at hc hb hset hkeep
      unfold lowB at hset hkeep
      go_wp2_with fail
      · have h1 : 65 ≤ c := by assumption
        have h2 : c ≤ 90 := by assumption
        rw [if_pos ⟨h1, h2⟩] at hset
        refine ⟨⟨k + 1, by omega, by simp, ?_⟩, by simp only [intOf]; omega⟩
        rw [show c + 97 - 65 = c + 32 by omega]
        exact hset
      · have h2 : 90 < c := by assumption
        exact ⟨⟨k + 1, by omega, by simp, hkeep (if_neg (by omega))⟩, by simp only [intOf]; omega⟩
      · have h2 : ¬ 65 ≤ c := by assumption
        exact ⟨⟨k + 1, by omega, by simp, hkeep (if_neg (by omega))⟩, by simp only [intOf]; omega⟩
    · obtain rfl : k = s.size := by omega
      have hcv : (convert 39 9 (.slice (some ⟨w.heap.size, 0, none⟩) s.size cap)).run Tryz.prog wr = .ok (.string (lowF s)) wr := by
        rw [run_convert_bytes_string _ 39 9 5 _ _ _ Tryz.underlying39 Tryz.underlying5 Tryz.underlying9]
        refine run_bytesToString _ _ s.size cap _ ?_
        rw [List.map_map]
        refine run_loadCells _ _ s.size (fun j => .int .u8 (lowB (byteAt s j))) fun j hj => ?_
        have ha : (⟨w.heap.size, 0, none⟩ : Addr).add j = ⟨w.heap.size, j, none⟩ := by
          unfold Addr.add
          by_cases h0 : j = 0
          · subst h0; simp
          · simp [h0]
        rw [ha]
        exact hR.done j hj
      go_wp2_with fail
      go_returns
      exact ⟨rfl, hR.low⟩
end Go.Proofs.YtfieklkhbihhoaaGreatDoor

namespace Go.Proofs.YtfieklkhbihhoaaGreatDoor
open Go Go.RowKit Go.Vm Go.Shelf
set_option maxRecDepth 10000
theorem cs_blank (b : UInt8) : ([9, 10, 13, 32] : List UInt8).contains b = blankB (b.toNat : Int) := by
  have h : ∀ n, n < 256 → ([9, 10, 13, 32] : List UInt8).contains (UInt8.ofNat n) = blankB (n : Int) := by decide
  have := h b.toNat b.toNat_lt
  rwa [UInt8.ofNat_toNat] at this
theorem byte_list {s : ByteArray} {j : Nat} {b : UInt8} (h : s.data.toList[j]? = some b) : byteAt s j = b.toNat := by
  unfold byteAt
  rw [List.getD_eq_getElem?_getD, h]
  rfl
theorem lt_of_list {s : ByteArray} {j : Nat} {b : UInt8} (h : s.data.toList[j]? = some b) : j < s.size := by
  have := (List.getElem?_eq_some_iff.1 h).1
  rw [Array.length_toList] at this
  exact this
theorem trim_of {s : ByteArray} {k m : Nat} (hkm : k ≤ m) (hm : m ≤ s.size) (hA : ∀ j, j < k → blankB (byteAt s j) = true) (hk : k = m ∨ blankB (byteAt s k) = false)
    (hM : ∀ j, m ≤ j → j < s.size → blankB (byteAt s j) = true) (hq : k = m ∨ blankB (byteAt s (m - 1)) = false) : s.extract k m = trimF s := by
  have hlen : s.data.toList.length = s.size := by rw [Array.length_toList]; rfl
  have hx : (s.extract k m).data.toList = (s.data.toList.take m).drop k := by
    rw [ByteArray.data_extract, Array.toList_extract, List.extract_eq_take_drop, List.take_drop]
    congr 2
    omega
  have e1 : trimF s = ⟨((s.data.toList.take m).drop k).toArray⟩ := by
    unfold trimF Lib.trimS
    by_cases h : k = m
    · subst h
      have all : ∀ (j : Nat) b, s.data.toList[j]? = some b → ([9, 10, 13, 32] : List UInt8).contains b = true := by
        intro j b hj
        rw [cs_blank, ← byte_list hj]
        by_cases h : j < k
        · exact hA j h
        · exact hM j (by omega) (lt_of_list hj)
      rw [Lib.trimRightS_take _ _ 0 (Nat.zero_le _) (fun j b _ hj => all j b hj) (fun b h => absurd h (Nat.lt_irrefl _))]
      rw [List.take_zero, List.drop_eq_nil_of_le (by simp; omega)]
      rfl
    · have hk := hk.resolve_left h
      have hq := hq.resolve_left h
      rw [Lib.trimRightS_take _ _ m (by omega) (fun j b h1 hj => by rw [cs_blank, ← byte_list hj]; exact hM j h1 (lt_of_list hj)) (fun b _ hj => by rw [cs_blank, ← byte_list hj]; exact hq)]
      rw [Lib.trimLeftS_drop _ _ k (by rw [List.length_take]; omega) ?_ ?_]
      · intro j b h1 hj
        rw [List.getElem?_take_of_lt (by omega)] at hj
        rw [cs_blank, ← byte_list hj]
        exact hA j h1
      · intro b hj
        rw [List.getElem?_take_of_lt (by omega)] at hj
        rw [cs_blank, ← byte_list hj]
        exact hk
  rw [e1, ← hx]
theorem ref_trim' (s : ByteArray) (hs : s.size ≤ 4294967296) (w : World) : Calls Tryz.prog 5 #[.string ⟨#[116, 114, 105, 109]⟩, .string s] w fun e w' => e = .returned (.string (trimF s)) ∧ w' = w := by
  refine (ref_trim s hs w).mono ?_
  rintro e w' ⟨⟨k, m, h1, h2, h3, h4, h5, h6, rfl⟩, rfl⟩
  exact ⟨by rw [trim_of h1 h2 h3 h4 h5 h6], rfl⟩
end Go.Proofs.YtfieklkhbihhoaaGreatDoor

namespace Go.Proofs.YtfieklkhbihhoaaGreatDoor
open Go Go.RowKit Go.Vm Go.Shelf
set_option maxRecDepth 10000
theorem first_false (p : Nat → Bool) : ∀ n, (∀ j, j < n → p j = true) ∨ ∃ k, k < n ∧ p k = false ∧ ∀ j, j < k → p j = true
  | 0 => .inl fun j hj => absurd hj (Nat.not_lt_zero j)
  | n + 1 => by
    rcases first_false p n with h | ⟨k, h1, h2, h3⟩
    · cases hp : p n with
      | true =>
        refine .inl fun j hj => ?_
        rcases Nat.lt_succ_iff_lt_or_eq.1 hj with h4 | rfl
        · exact h j h4
        · exact hp
      | false => exact .inr ⟨n, Nat.lt_succ_self n, hp, h⟩
    · exact .inr ⟨k, by omega, h2, h3⟩
theorem km (s : ByteArray) : ∃ k m, k ≤ m ∧ m ≤ s.size ∧ (∀ j, j < k → blankB (byteAt s j) = true) ∧ (k = m ∨ blankB (byteAt s k) = false) ∧ (∀ j, m ≤ j → j < s.size → blankB (byteAt s j) = true) ∧ (k = m ∨ blankB (byteAt s (m - 1)) = false) := by
  rcases first_false (fun j => blankB (byteAt s j)) s.size with h | ⟨k, h1, h2, h3⟩
  · exact ⟨s.size, s.size, Nat.le_refl _, Nat.le_refl _, h, .inl rfl, fun j a b => absurd b (by omega), .inl rfl⟩
  · rcases first_false (fun d => blankB (byteAt s (s.size - 1 - d))) s.size with g | ⟨d, g1, g2, g3⟩
    · have := g (s.size - 1 - k) (by omega)
      rw [show s.size - 1 - (s.size - 1 - k) = k by omega] at this
      rw [this] at h2; cases h2
    · have hkm : k ≤ s.size - 1 - d := by
        rcases Nat.lt_or_ge (s.size - 1 - d) k with h4 | h4
        · have := h3 _ h4
          rw [this] at g2; cases g2
        · exact h4
      refine ⟨k, s.size - d, by omega, by omega, h3, .inr h2, ?_, .inr ?_⟩
      · intro j a b
        have := g3 (s.size - 1 - j) (by omega)
        rwa [show s.size - 1 - (s.size - 1 - j) = j by omega] at this
      · rw [show s.size - d - 1 = s.size - 1 - d by omega]
        exact g2
theorem byteAt_extract (s : ByteArray) (k m j : Nat) (h : j < (s.extract k m).size) : byteAt (s.extract k m) j = byteAt s (k + j) := by
  have hs : (s.extract k m).size = min m s.size - k := ByteArray.size_extract ..
  unfold byteAt
  rw [ByteArray.data_extract, Array.toList_extract, List.extract_eq_take_drop]
  simp only [List.getD_eq_getElem?_getD, List.getElem?_take_of_lt (show j < m - k by omega), List.getElem?_drop]
theorem trimF_size (s : ByteArray) : (trimF s).size ≤ s.size := by
  obtain ⟨k, m, h1, h2, h3, h4, h5, h6⟩ := km s
  rw [← trim_of h1 h2 h3 h4 h5 h6, ByteArray.size_extract]
  omega
theorem trimF_trimF (s : ByteArray) : trimF (trimF s) = trimF s := by
  obtain ⟨k, m, h1, h2, h3, h4, h5, h6⟩ := km s
  rw [← trim_of h1 h2 h3 h4 h5 h6]
  have hz : (s.extract k m).size = m - k := by rw [ByteArray.size_extract]; omega
  have := trim_of (s := s.extract k m) (k := 0) (m := (s.extract k m).size) (Nat.zero_le _) (Nat.le_refl _) (fun j hj => absurd hj (Nat.not_lt_zero j)) ?_ (fun j a b => absurd b (by omega)) ?_
  · rw [← this]
    exact ByteArray.extract_zero_size
  · by_cases h : k = m
    · exact .inl (by omega)
    · right
      rw [byteAt_extract _ _ _ _ (by omega)]
      exact h4.resolve_left h
  · by_cases h : k = m
    · exact .inl (by omega)
    · right
      rw [byteAt_extract _ _ _ _ (by omega), hz, show k + (m - k - 1) = m - 1 by omega]
      exact h6.resolve_left h
theorem lowF_list (s : ByteArray) : (lowF s).data.toList = (List.range s.size).map fun j => UInt8.ofNat (lowB (byteAt s j)).toNat := by
  unfold lowF
  have : ∀ (l : List Int) (b : ByteArray), (l.foldl (fun r n => r.push (UInt8.ofNat n.toNat)) b).data.toList = b.data.toList ++ l.map fun n => UInt8.ofNat n.toNat := by
    intro l
    induction l with
    | nil => intro b; simp
    | cons a l ih => intro b; rw [List.foldl_cons, ih]; simp
  rw [this]
  simp
theorem lowF_size (s : ByteArray) : (lowF s).size = s.size := by
  have := congrArg List.length (lowF_list s)
  rw [List.length_map, List.length_range, Array.length_toList] at this
  exact this
theorem byteAt_lowF (s : ByteArray) (j : Nat) (h : j < s.size) : byteAt (lowF s) j = lowB (byteAt s j) := by
  have hb : 0 ≤ byteAt s j ∧ byteAt s j ≤ 255 := by unfold byteAt; have := (s.data.toList.getD j 0).toNat_lt; omega
  have h1 : 0 ≤ lowB (byteAt s j) ∧ lowB (byteAt s j) ≤ 255 := by unfold lowB; split <;> omega
  have : (lowF s).data.toList[j]? = some (UInt8.ofNat (lowB (byteAt s j)).toNat) := by rw [lowF_list]; simp [h]
  rw [byte_list this, UInt8.toNat_ofNat']
  omega
theorem lowF_lowF (s : ByteArray) : lowF (lowF s) = lowF s := by
  have : (lowF (lowF s)).data.toList = (lowF s).data.toList := by
    rw [lowF_list (lowF s), lowF_list s, lowF_size]
    apply List.map_congr_left
    intro j hj
    rw [byteAt_lowF s j (List.mem_range.1 hj)]
    congr 2
    unfold lowB
    split
    · split <;> omega
    · rfl
  generalize lowF (lowF s) = a at this
  generalize lowF s = b at this
  cases a with | mk d => cases b with | mk d' => cases d; cases d'; cases this; rfl
end Go.Proofs.YtfieklkhbihhoaaGreatDoor

namespace Go.Proofs.YtfieklkhbihhoaaGreatDoor
open Go Go.RowKit Go.Vm Go.Shelf
set_option maxRecDepth 1000000
def trV (s : ByteArray) : Value := .agg #[.int .i64 4, .string s, .slice none 0 0, .slice none 0 0]
def wayS (i : Nat) : ByteArray := if i = 0 then ⟨#[116, 114, 105, 109]⟩ else ⟨#[108, 111, 119, 101, 114]⟩
def canonF (i : Nat) (s : ByteArray) : ByteArray := if i = 0 then trimF s else lowF s
def likeS (i : Nat) : ByteArray := ⟨#[108, 105, 107, 101, 32]⟩ ++ wayS i
theorem canon_at (i : Nat) (s : ByteArray) (hs : s.size ≤ 4294967296) (w : World) : Calls Tryz.prog 4 #[.string (wayS i), .string s] w fun e w' => e = .returned (.string (canonF i s)) ∧ Below w.heap.size w w' := by
  unfold wayS canonF
  split
  · exact canon_trim s hs w
  · exact canon_lower s hs w
theorem ref_at (i : Nat) (s : ByteArray) (hs : s.size ≤ 4294967296) (w : World) : Calls Tryz.prog 5 #[.string (wayS i), .string s] w fun e w' => e = .returned (.string (canonF i s)) ∧ Below w.heap.size w w' := by
  unfold wayS canonF
  split
  · exact (ref_trim' s hs w).mono fun e w' h => ⟨h.1, h.2 ▸ Below.refl _ _⟩
  · exact ref_lower s hs w
theorem canonF_size (i : Nat) (s : ByteArray) : (canonF i s).size ≤ s.size := by
  unfold canonF
  split
  · exact trimF_size s
  · rw [lowF_size]; exact Nat.le_refl _
theorem canonF_canonF (i : Nat) (s : ByteArray) : canonF i (canonF i s) = canonF i s := by
  unfold canonF
  split
  · exact trimF_trimF s
  · exact lowF_lowF s
theorem two_cells (W W' : World) (x y : Array Value) (t u : TypeId) (h : Below ((W.alloc (.cells x t)).alloc (.cells y u)).heap.size ((W.alloc (.cells x t)).alloc (.cells y u)) W') :
    (∀ j, W'.cell? ⟨W.heap.size, j, none⟩ = x[j]?) ∧ (∀ j, W'.cell? ⟨W.heap.size + 1, j, none⟩ = y[j]?) := by
  have hs : ((W.alloc (.cells x t)).alloc (.cells y u)).heap.size = W.heap.size + 2 := by rw [World.size_alloc, World.size_alloc]
  refine ⟨fun j => ?_, fun j => ?_⟩
  · rw [h.cell (p := ⟨W.heap.size, j, none⟩) (by show W.heap.size < _; omega)]
    have hb := (Below.refl (W.alloc (.cells x t)).heap.size (W.alloc (.cells x t))).alloc (Nat.le_refl _) (.cells y u)
    rw [hb.cell (p := ⟨W.heap.size, j, none⟩) (by show W.heap.size < _; rw [World.size_alloc]; omega)]
    rw [World.cell?_alloc_at _ _ _ _ rfl]
  · rw [h.cell (p := ⟨W.heap.size + 1, j, none⟩) (by show W.heap.size + 1 < _; omega)]
    rw [World.cell?_alloc_at _ _ _ _ (by show W.heap.size + 1 = _; rw [World.size_alloc])]
theorem keepS {w8 W w' : World} {a : Addr} {v : Value} (hlt : a.block < w8.heap.size) (h : W.cell? a = some v ∧ Below w8.heap.size w8 W) (hb : Below W.heap.size W w') : w'.cell? a = some v ∧ Below w8.heap.size w8 w' :=
  ⟨(hb.cell (Nat.lt_of_lt_of_le hlt h.2.size)).trans h.1, h.2.trans (hb.mono h.2.size)⟩
theorem list_ne {x y : ByteArray} (h : ¬ x = y) : (x.toList == y.toList) = false := by
  rw [beq_eq_false_iff_ne]
  intro e
  rw [ByteArray.toList_eq, ByteArray.toList_eq] at e
  cases x with | mk d => cases y with | mk d' => cases d with | mk l => cases d' with | mk l' => exact h (by cases e; rfl)
def cut5 (s : ByteArray) : ByteArray := if (500 : Int) < s.size then s.extract 0 500 else s
theorem cut5_size (s : ByteArray) : (cut5 s).size ≤ 500 := by
  unfold cut5
  split
  · rw [ByteArray.size_extract]; omega
  · omega
set_option maxHeartbeats 16000000 in
theorem canon_walk (a0 b0 : ByteArray) (w : World) (PutOk : Nat → Addr → Nat → World → Prop)
    (hof : ∀ i W, i < 2 → Below w.heap.size w W → Calls Tryz.prog 6 #[.string (likeS i)] W fun e W' => (∃ p, e = .returned (.pointer (some p)) ∧ PutOk i p W.heap.size W') ∧ Below W.heap.size W W')
    (hput : ∀ i, i < 2 → ∀ p B W0 W, PutOk i p B W0 → Below W0.heap.size W0 W → validF (cut5 a0) = true → validF (cut5 b0) = true → Calls Tryz.prog 8 #[.pointer (some p), trV (cut5 a0), trV (cut5 b0), .slice none 0 0] W fun e W' => (∃ p1 n1 c1 p2 n2 c2, e = .returned (.tuple #[trV (if canonF i (cut5 a0) = canonF i (cut5 b0) then cut5 a0 else cut5 b0), .agg #[.slice p1 n1 c1, .slice p2 n2 c2], .int .i64 0])) ∧ Below B W W')
    (hright : ∀ s W, s.size ≤ 500 → Below w.heap.size w W → Calls Tryz.prog 7 #[trV s] W fun e W' => (∃ n, (n = 0 ↔ validF s = true) ∧ e = .returned (.int .i64 n)) ∧ Below W.heap.size W W')
    (hruns : ∀ W, Below w.heap.size w W → Calls Tryz.prog 9 #[] W fun e W' => e = .returned (.bool true) ∧ Below W.heap.size W W') :
    Calls Tryz.prog 3 #[.string a0, .string b0] w fun e w' => e = .returned (.bool true) ∧ Below w.heap.size w w' := by
  obtain ⟨a, hea⟩ : ∃ a, a = cut5 a0 := ⟨_, rfl⟩
  obtain ⟨b, heb⟩ : ∃ b, b = cut5 b0 := ⟨_, rfl⟩
  have ha : a.size ≤ 500 := hea ▸ cut5_size a0
  have hb : b.size ≤ 500 := heb ▸ cut5_size b0
  rw [← hea, ← heb] at hput
  unfold cut5 at hea heb
  go_enter Tryz.func3, Tryz.ntmps3
  by_cases hla : (500 : Int) < a0.size <;> by_cases hlb : (500 : Int) < b0.size
  all_goals first | rw [if_pos hla] at hea | (rw [if_neg hla] at hea; subst hea)
  all_goals first | rw [if_pos hlb] at heb | (rw [if_neg hlb] at heb; subst heb)
  all_goals go_wp2_with fail
  all_goals first | rw [← hea] | skip
  all_goals first | rw [← heb] | skip
  all_goals try clear hea
  all_goals try clear heb
  all_goals try clear hla
  all_goals try clear hlb
  all_goals
    go_loopw [6] (fun i wr => ∃ k : Nat, k ≤ 2 ∧ i = .int .i64 k ∧ Below w.heap.size w wr ∧ w.heap.size < wr.heap.size ∧ Hid (∀ j, j < 2 → wr.cell? ⟨w.heap.size, j, none⟩ = some (.string (wayS j)))) (fun i _ => 2 - (intOf i).toNat)
    case atStart =>
      refine ⟨0, by omega, rfl, (Below.refl _ w).alloc (Nat.le_refl _) _, by rw [World.size_alloc]; omega, ?_⟩
      intro j hj
      rw [World.cell?_alloc_at _ _ _ _ rfl]
      match j, hj with
      | 0, _ => rfl
      | 1, _ => rfl
    case round =>
      obtain ⟨k, hk, rfl, hB, hsz, hC⟩ := hrel
      by_cases hlt : k < 2
      · have hc := hC.out k hlt
        go_wp2_with fail
        go_call (canon_at k a (by omega) _) as e w1 ⟨he, hb1⟩
        subst he
        have hc1 : w1.cell? ⟨w.heap.size, k, none⟩ = some (.string (wayS k)) := (hb1.cell (p := ⟨w.heap.size, k, none⟩) hsz).trans hc
        have hxx := canonF_canonF k a
        have hxs := canonF_size k a
        have hxl : ¬ ((a.size : Int) < (canonF k a).size) := by omega
        have hcan2 := canon_at k (canonF k a) (by omega) w1
        rw [hxx] at hcan2
        have href := ref_at k a (by omega)
        generalize canonF k a = x at hcan2 hxl hxs href
        clear hxx
        go_wp2_with fail
        go_call hcan2 as e w2 ⟨he, hb2⟩
        subst he
        have hc2 : w2.cell? ⟨w.heap.size, k, none⟩ = some (.string (wayS k)) := (hb2.cell (p := ⟨w.heap.size, k, none⟩) (Nat.lt_of_lt_of_le hsz hb1.size)).trans hc1
        go_wp2_with fail
        go_call (href w2) as e w3 ⟨he, hb3⟩
        subst he
        have hs2 := Nat.lt_of_lt_of_le hsz hb1.size
        have hs3 := Nat.lt_of_lt_of_le hs2 hb2.size
        have hc3 : w3.cell? ⟨w.heap.size, k, none⟩ = some (.string (wayS k)) := (hb3.cell (p := ⟨w.heap.size, k, none⟩) hs3).trans hc2
        have hs4 := Nat.lt_of_lt_of_le hs3 hb3.size
        have hR2 := hb1.trans (hb2.mono hb1.size)
        have hR3 := hR2.trans (hb3.mono hR2.size)
        have hof3 := hof k w3 hlt (hB.trans (hR3.mono hB.size))
        unfold likeS at hof3
        have hws : ¬ 9223372036854775807 < 5 + (wayS k).size := by
          have : (wayS k).size ≤ 5 := by unfold wayS; split <;> decide
          omega
        have hput3 := hput k hlt
        go_wp2_with fail
        go_call hof3 as e w4 ⟨⟨p, he, hP⟩, hb4⟩
        subst he
        have hc4 : w4.cell? ⟨w.heap.size, k, none⟩ = some (.string (wayS k)) := (hb4.cell (p := ⟨w.heap.size, k, none⟩) hs4).trans hc3
        have hs5 := Nat.lt_of_lt_of_le hs4 hb4.size
        have hA4 : Below w4.heap.size w4 ((w4.alloc (.cells #[.int .i64 4, .string a, .slice none 0 0, .slice none 0 0] 28)).alloc (.cells #[.int .i64 4, .string b, .slice none 0 0, .slice none 0 0] 28)) := ((Below.refl _ w4).alloc (Nat.le_refl _) _).alloc (by rw [World.size_alloc]; omega) _
        have hca : World.cell? ((w4.alloc (.cells #[.int .i64 4, .string a, .slice none 0 0, .slice none 0 0] 28)).alloc (.cells #[.int .i64 4, .string b, .slice none 0 0, .slice none 0 0] 28)) ⟨w.heap.size, k, none⟩ = some (.string (wayS k)) := (hA4.cell (p := ⟨w.heap.size, k, none⟩) hs5).trans hc4
        have hR4 := hR3.trans (hb4.mono hR3.size)
        have hRA := hR4.trans (hA4.mono hR4.size)
        have hra := hright a ((w4.alloc (.cells #[.int .i64 4, .string a, .slice none 0 0, .slice none 0 0] 28)).alloc (.cells #[.int .i64 4, .string b, .slice none 0 0, .slice none 0 0] 28)) ha (hB.trans (hRA.mono hB.size))
        unfold trV at hra
        go_wp2_with fail
        go_call hra as e w5 ⟨⟨n, hn, he⟩, hb5⟩
        subst he
        have hX5 := two_cells w4 w5 _ _ _ _ hb5
        have hP5 := hA4.trans (hb5.mono hA4.size)
        have hc5 := (hb5.cell (p := ⟨w.heap.size, k, none⟩) (Nat.lt_of_lt_of_le hs5 hA4.size)).trans hca
        have hs6 := Nat.lt_of_lt_of_le hs5 hP5.size
        clear hra hcan2 href hof3 hca hc hc1 hc2 hc3
        have hy0 : w5.cell? ⟨w4.heap.size + 1, 0, none⟩ = some (.int .i64 4) := hX5.2 0
        have hy1 : w5.cell? ⟨w4.heap.size + 1, 1, none⟩ = some (.string b) := hX5.2 1
        have hy2 : w5.cell? ⟨w4.heap.size + 1, 2, none⟩ = some (.slice none 0 0) := hX5.2 2
        have hy3 : w5.cell? ⟨w4.heap.size + 1, 3, none⟩ = some (.slice none 0 0) := hX5.2 3
        have hR5 : Below wr.heap.size wr w5 := hR4.trans (hP5.mono hR4.size)
        by_cases hn0 : n = 0
        · have hva : validF a = true := hn.1 hn0
          clear hn
          subst hn0
          go_wp2_with (simp only)
          have hrb := hright b w5 hb (hB.trans (hR5.mono hB.size))
          unfold trV at hrb
          go_call hrb as e w6 ⟨⟨m, hm, he⟩, hb6⟩
          subst he
          have hX6 := two_cells w4 w6 _ _ _ _ (hb5.trans (hb6.mono hb5.size))
          have hz0 : w6.cell? ⟨w4.heap.size + 1, 0, none⟩ = some (.int .i64 4) := hX6.2 0
          have hz1 : w6.cell? ⟨w4.heap.size + 1, 1, none⟩ = some (.string b) := hX6.2 1
          have hz2 : w6.cell? ⟨w4.heap.size + 1, 2, none⟩ = some (.slice none 0 0) := hX6.2 2
          have hz3 : w6.cell? ⟨w4.heap.size + 1, 3, none⟩ = some (.slice none 0 0) := hX6.2 3
          have ha0 : w6.cell? ⟨w4.heap.size, 0, none⟩ = some (.int .i64 4) := hX6.1 0
          have ha1 : w6.cell? ⟨w4.heap.size, 1, none⟩ = some (.string a) := hX6.1 1
          have ha2 : w6.cell? ⟨w4.heap.size, 2, none⟩ = some (.slice none 0 0) := hX6.1 2
          have ha3 : w6.cell? ⟨w4.heap.size, 3, none⟩ = some (.slice none 0 0) := hX6.1 3
          have hR6 : Below wr.heap.size wr w6 := hR5.trans (hb6.mono hR5.size)
          have hP6 : Below w4.heap.size w4 w6 := hP5.trans (hb6.mono hP5.size)
          by_cases hm0 : m = 0
          · have hvb : validF b = true := hm.1 hm0
            clear hm
            subst hm0
            have hpt := hput3 p w3.heap.size w4 w6 hP hP6 hva hvb
            unfold trV at hpt
            clear hy0 hy1 hy2 hy3
            go_wp2_with (simp only)
            go_call hpt as e w7 ⟨⟨p1, n1, c1, p2, n2, c2, he⟩, hb7⟩
            subst he
            have hR7 := hR6.trans (hb7.mono hR3.size)
            have hc7 := (hR7.cell (p := ⟨w.heap.size, k, none⟩) hsz).trans (hC.out k hlt)
            generalize hq : (if canonF k a = canonF k b then a else b) = q
            go_wp2_with fail
            have hA7 : Below w7.heap.size w7 ((w7.alloc (.cells #[.int .i64 4, .string q, .slice none 0 0, .slice none 0 0] 28)).alloc (.cells #[.slice p1 n1 c1, .slice p2 n2 c2] 34)) := ((Below.refl _ w7).alloc (Nat.le_refl _) _).alloc (by rw [World.size_alloc]; omega) _
            have hs7 := Nat.lt_of_lt_of_le hsz hR7.size
            have hc8 := (hA7.cell (p := ⟨w.heap.size, k, none⟩) hs7).trans hc7
            have hT8 := fun w' => two_cells w7 w' #[.int .i64 4, .string q, .slice none 0 0, .slice none 0 0] #[.slice p1 n1 c1, .slice p2 n2 c2] 28 34
            have hR8 : Below wr.heap.size wr _ := hR7.trans (hA7.mono hR7.size)
            generalize ((w7.alloc (.cells #[.int .i64 4, .string q, .slice none 0 0, .slice none 0 0] 28)).alloc (.cells #[.slice p1 n1 c1, .slice p2 n2 c2] 34)) = w8 at hA7 hc8 hT8 hR8 ⊢
            have hs8 := Nat.lt_of_lt_of_le hsz hR8.size
            go_region_held3 (fun w' => w'.cell? ⟨w.heap.size, k, none⟩ = some (.string (wayS k)) ∧ Below w8.heap.size w8 w')
              (first | exact ⟨hc8, (Below.refl _ _).drew⟩ | exact keepS hs8 (by assumption) (by assumption))
              (first
                | (go_at_call_of 4 (Value.string a); refine (canon_at k a (by omega) _).mono ?_; rintro e w' ⟨rfl, hbx⟩)
                | (go_at_call_of 4 (Value.string b); refine (canon_at k b (by omega) _).mono ?_; rintro e w' ⟨rfl, hbx⟩))
            have hH : w'.cell? ⟨w.heap.size, k, none⟩ = some (.string (wayS k)) ∧ Below w8.heap.size w8 w' := by assumption
            have hT : w'.cell? ⟨w7.heap.size, 1, none⟩ = some (.string q) := (hT8 w' hH.2).1 1
            have hR := hR8.trans (hH.2.mono hR8.size)
            have hend : (∃ k', k' ≤ 2 ∧ Value.int .i64 ((k : Int) + 1) = .int .i64 (k' : Nat) ∧ Below w.heap.size w w' ∧ w.heap.size < w'.heap.size ∧ Hid (∀ j, j < 2 → w'.cell? ⟨w.heap.size, j, none⟩ = some (.string (wayS j)))) :=
              ⟨k + 1, by omega, by simp, hB.trans (hR.mono hB.size), Nat.lt_of_lt_of_le hsz hR.size, fun j hj => (hR.cell (p := ⟨w.heap.size, j, none⟩) hsz).trans (hC.out j hj)⟩
            clear hT8 hH hc8 hA7 hs8 hs7 hc7 hX6 hX5 hput3 hpt
            by_cases heq : canonF k a = canonF k b
            · rw [if_pos heq] at hq
              subst hq
              generalize canonF k a = ca at heq ⊢
              generalize canonF k b = cb at heq ⊢
              have hqq : (ca.toList == cb.toList) = true := by rw [heq]; exact beq_self_eq_true _
              go_wp2_with fail
              all_goals first | exact ⟨hend, by simp [intOf]; omega⟩ | (exfalso; rename_i h1 h2; rw [hqq] at h1; cases h1)
            · rw [if_neg heq] at hq
              subst hq
              generalize canonF k a = ca at heq ⊢
              generalize canonF k b = cb at heq ⊢
              have hqq : (ca.toList == cb.toList) = false := list_ne heq
              go_wp2_with fail
              all_goals first | exact ⟨hend, by simp [intOf]; omega⟩ | (exfalso; rename_i h1 h2; rw [hqq] at h1; cases h1)
          · have hvb : ¬ validF b = true := fun h => hm0 (hm.2 h)
            clear hm
            go_wp2_with fail
            exact ⟨⟨k + 1, by omega, by simp, hB.trans (hR6.mono hB.size), Nat.lt_of_lt_of_le hsz hR6.size, fun j hj => (hR6.cell (p := ⟨w.heap.size, j, none⟩) hsz).trans (hC.out j hj)⟩, by simp [intOf]; omega⟩
        · have hva : ¬ validF a = true := fun h => hn0 (hn.2 h)
          clear hn
          go_wp2_with (simp only)
          exact ⟨⟨k + 1, by omega, by simp, hB.trans (hR5.mono hB.size), Nat.lt_of_lt_of_le hsz hR5.size, fun j hj => (hR5.cell (p := ⟨w.heap.size, j, none⟩) hsz).trans (hC.out j hj)⟩, by simp [intOf]; omega⟩
      · obtain rfl : k = 2 := by omega
        go_wp2_with fail
        go_call (hruns _ hB) as e w' ⟨he, hb⟩
        subst he
        go_wp2_with fail
        go_returns
        exact ⟨rfl, hB.trans (hb.mono hB.size)⟩
end Go.Proofs.YtfieklkhbihhoaaGreatDoor
