/- What the machine's records say of 'of', Put, Right and EvalRuns; EvalCanon from a start whose table of powers is laid. No other condition. -/
import Derived.Test.YtfieklkhbihhoaaGreatDoorCa
import Derived.Test.YtfieklkhbihhoaaGreatDoorPx
import Derived.Test.YtfieklkhbihhoaaGreatDoorF
namespace Go.Proofs.YtfieklkhbihhoaaGreatDoor
open Go Go.RowKit Go.Vm Go.Shelf Go.Proofs
set_option maxRecDepth 1000000
theorem primsAny [Syms] {H0 : Nat} {W0 : World} : Prims H0 W0 := ⟨trivial, prim_cmp ⟨_, Tryz.func298, by kernel_rfl, by kernel_rfl, by kernel_rfl, by kernel_rfl⟩, prim_id ⟨_, Tryz.func383, by kernel_rfl, by kernel_rfl, by kernel_rfl, by kernel_rfl⟩⟩
noncomputable abbrev symsOf (i : Nat) (a b : ByteArray) : Syms where
  str k := match k with
    | 0 => some a
    | 1 => some b
    | 2 => some (canonF i a)
    | 3 => if canonF i a = canonF i b then none else some (canonF i b)
    | _ + 4 => none
  inj := by
    intro j k s hj hk h1 h2
    match j, k, hj, hk, h1, h2 with
    | 2, 2, _, _, _, _ => rfl
    | 3, 3, _, _, _, _ => rfl
    | 2, 3, _, _, h1, h2 =>
      simp only at h1 h2
      split at h2
      · cases h2
      · rename_i hn
        exact absurd ((Option.some.inj h1).trans (Option.some.inj h2).symm) hn
    | 3, 2, _, _, h1, h2 =>
      simp only at h1 h2
      split at h1
      · cases h1
      · rename_i hn
        exact absurd ((Option.some.inj h2).trans (Option.some.inj h1).symm) hn
    | n + 4, k, _, _, h1, _ => cases h1
    | 2, n + 4, _, _, _, h2 => cases h2
    | 3, n + 4, _, _, _, h2 => cases h2
theorem tok_inv [Syms] {ρ : Rho} {k : Nat} {v : Value} (h : VR ρ (.tok k) v) : ∃ s, v = .string s ∧ Syms.str k = some s := by cases h; exact ⟨_, rfl, by assumption⟩
theorem way_inv [Syms] {ρ : Rho} {i : Nat} {v : Value} (h : VR ρ (wayN i) v) : v = .string (wayS i) := by
  unfold wayN at h
  unfold wayS
  split
  · rename_i hi
    rw [if_pos hi] at h
    obtain ⟨t, rfl, hs⟩ := str_inv h
    rw [str_only [116, 114, 105, 109] hs rfl (by decide)]
  · rename_i hi
    rw [if_neg hi] at h
    obtain ⟨t, rfl, hs⟩ := str_inv h
    rw [str_only [108, 111, 119, 101, 114] hs rfl (by decide)]
theorem ent4 (i : Nat) (a b : ByteArray) (ha : a.size ≤ 500) (hb : b.size ≤ 500) {H0 : Nat} {W0 : World} {rows : List (List AV × AV)}
    (hr : ∀ r ∈ rows, r = ([wayN i, .tok 0], .tok 2) ∨ (canonF i a = canonF i b ∧ r = ([wayN i, .tok 1], .tok 2)) ∨ (canonF i a ≠ canonF i b ∧ r = ([wayN i, .tok 1], .tok 3))) :
    @EntOk (symsOf i a b) Tryz.prog (midOf mnames 0) H0 W0 4 (.prim (primL rows)) := by
  letI : Syms := symsOf i a b
  refine prim_l (fun args w => enter_run Tryz.func4 rfl (by kernel_rfl)) ?_
  intro r hm ρ args W hv
  have two : ∀ {k : Nat}, VRs ρ [wayN i, .tok k] args.toList → ∃ s, args = #[.string (wayS i), .string s] ∧ Syms.str k = some s := by
    intro k hv
    generalize hargs : args.toList = L0 at hv
    cases hv with
    | cons _ _ x y h1 t1 =>
      cases t1 with
      | cons _ _ z u h2 t2 =>
        cases t2
        obtain rfl := way_inv h1
        obtain ⟨s, rfl, hs⟩ := tok_inv h2
        exact ⟨s, by apply Array.ext'; simpa using hargs, hs⟩
  rcases hr r hm with rfl | ⟨he, rfl⟩ | ⟨he, rfl⟩
  · obtain ⟨s, rfl, hs⟩ := two hv
    obtain rfl : a = s := Option.some.inj hs
    exact (canon_at i a (by omega) W).mono fun e W' h => ⟨⟨_, h.1, fun ρ => .tok 2 _ rfl⟩, h.2⟩
  · obtain ⟨s, rfl, hs⟩ := two hv
    obtain rfl : b = s := Option.some.inj hs
    exact (canon_at i b (by omega) W).mono fun e W' h => ⟨⟨_, h.1, fun ρ => .tok 2 _ (congrArg some he)⟩, h.2⟩
  · obtain ⟨s, rfl, hs⟩ := two hv
    obtain rfl : b = s := Option.some.inj hs
    exact (canon_at i b (by omega) W).mono fun e W' h => ⟨⟨_, h.1, fun ρ => .tok 3 _ (if_neg he)⟩, h.2⟩
theorem ent4s (i : Nat) (a b : ByteArray) (ha : a.size ≤ 500) (hb : b.size ≤ 500) {H0 : Nat} {W0 : World} (he : canonF i a = canonF i b) : @EntOk (symsOf i a b) Tryz.prog (midOf mnames 0) H0 W0 4 (.prim (primL (cT i 2))) :=
  ent4 i a b ha hb (rows := cT i 2) (by
    intro r hr
    unfold cT at hr
    rcases List.mem_cons.1 hr with rfl | hr
    · exact .inl rfl
    · rcases List.mem_cons.1 hr with rfl | hr
      · exact .inr (.inl ⟨he, rfl⟩)
      · cases hr)
theorem ent4d (i : Nat) (a b : ByteArray) (ha : a.size ≤ 500) (hb : b.size ≤ 500) {H0 : Nat} {W0 : World} (he : canonF i a ≠ canonF i b) : @EntOk (symsOf i a b) Tryz.prog (midOf mnames 0) H0 W0 4 (.prim (primL (cT i 3))) :=
  ent4 i a b ha hb (rows := cT i 3) (by
    intro r hr
    unfold cT at hr
    rcases List.mem_cons.1 hr with rfl | hr
    · exact .inl rfl
    · rcases List.mem_cons.1 hr with rfl | hr
      · exact .inr (.inr ⟨he, rfl⟩)
      · cases hr)
theorem ent47 [S : Syms] {H0 : Nat} {W0 : World} {rows : List (List AV × AV)} (hr : ∀ r ∈ rows, ∃ k s, Syms.str k = some s ∧ s.size ≤ 500 ∧ r = ([.tok k], .bool (validF s))) :
    EntOk Tryz.prog (midOf mnames 0) H0 W0 47 (.prim (primL rows)) := by
  refine prim_l (fun args w => enter_run Tryz.func47 rfl (by kernel_rfl)) ?_
  intro r hm ρ args W hv
  obtain ⟨k, s, hs, hz, rfl⟩ := hr r hm
  generalize hargs : args.toList = L0 at hv
  cases hv with
  | cons _ _ x y h1 t1 =>
    cases t1
    obtain ⟨s', rfl, hs'⟩ := tok_inv h1
    obtain rfl : s = s' := Option.some.inj (hs.symm.trans hs')
    obtain rfl : args = #[.string s] := by apply Array.ext'; simpa using hargs
    exact (valid_walk s (by omega) W).mono fun e W' h => ⟨⟨_, h.1, fun ρ => .bool _⟩, h.2 ▸ Below.refl _ _⟩
/-- what a record says of a call -/
theorem rec_does [Syms] {r : Rec} {B : Nat} {W0 W : World} {ρ : Rho} (hr : RecOk Tryz.prog B W0 r) (hW : WR ρ B r.m W) (hG : GlobR Tryz.prog ρ) (hB : Below B W0 W) {args : Array Value} (hv : VRs ρ r.l args.toList)
    (hen : (callFunc r.f args).run Tryz.prog W = .ok (.enter r.f args) W) :
    Calls Tryz.prog r.f args W fun e W' => ∃ u ρ', e = .returned u ∧ VR ρ' r.v u ∧ WR ρ' B r.m' W' ∧ Rho.le ρ ρ' ∧ Below B W W' := by
  rcases hr ρ W args hW hG hB hv with ⟨_, h⟩ | ⟨v, w', h, _⟩
  · refine h.mono ?_
    rintro e W' ⟨v', ρ', rfl, hv, hW', hst⟩
    exact ⟨v', ρ', rfl, hv, hW', hst.rho, hst.low⟩
  · rw [hen] at h; cases h
theorem globR_le {P : Program} {ρ ρ' : Rho} (h : GlobR P ρ) (hl : Rho.le ρ ρ') : GlobR P ρ' := fun g hg => (h g hg).imp fun _ e => hl _ _ e
theorem slice_inv [Syms] {ρ : Rho} {x : AV} {v : Value} (hx : sliceB x = true) (h : VR ρ x v) : ∃ p n c, v = .slice p n c := by
  cases h <;> first | exact ⟨_, _, _, rfl⟩ | cases hx
def PutOk (a b : ByteArray) (i : Nat) (p : Addr) (B : Nat) (W : World) : Prop :=
  ∃ ρ, @WR (symsOf i a b) ρ B (mOf i) W ∧ GlobR Tryz.prog ρ ∧ @VR (symsOf i a b) ρ (pOf i) (.pointer (some p))
theorem put_at (a b : ByteArray) (ha : a.size ≤ 500) (hb : b.size ≤ 500) (i : Nat) (hi : i < 2) (p : Addr) (B : Nat) (W0 W : World) (hP : PutOk a b i p B W0) (hB : Below W0.heap.size W0 W) (hva : validF a = true) (hvb : validF b = true) :
    Calls Tryz.prog 8 #[.pointer (some p), trV a, trV b, .slice none 0 0] W fun e W' => (∃ p1 n1 c1 p2 n2 c2, e = .returned (.tuple #[trV (if canonF i a = canonF i b then a else b), .agg #[.slice p1 n1 c1, .slice p2 n2 c2], .int .i64 0])) ∧ Below B W W' := by
  letI : Syms := symsOf i a b
  obtain ⟨ρ, hW, hG, hp⟩ := hP
  have hW := hW.later hB
  have h47 : EntOk Tryz.prog (midOf mnames 0) B W 47 (.prim (primL vT)) := ent47 (by
    intro r hr
    rcases List.mem_cons.1 hr with rfl | hr
    · exact ⟨0, a, rfl, ha, by rw [hva]⟩
    · rcases List.mem_cons.1 hr with rfl | hr
      · exact ⟨1, b, rfl, hb, by rw [hvb]⟩
      · cases hr)
  have htr : VRs ρ [pOf i, trA 0, trA 1, .nils] (#[.pointer (some p), trV a, trV b, .slice none 0 0] : Array Value).toList :=
    .cons _ _ _ _ hp (.cons _ _ _ _ (.agg _ _ (.cons _ _ _ _ (.int _ _) (.cons _ _ _ _ (.tok 0 a rfl) (.cons _ _ _ _ .nils (.cons _ _ _ _ .nils .nil))))) (.cons _ _ _ _ (.agg _ _ (.cons _ _ _ _ (.int _ _) (.cons _ _ _ _ (.tok 1 b rfl) (.cons _ _ _ _ .nils (.cons _ _ _ _ .nils .nil))))) (.cons _ _ _ _ .nils .nil)))
  have fin : ∀ (r : Rec) (q : Nat) (x y : AV) (s : ByteArray), RecOk Tryz.prog B W r → r.f = 8 → r.l = [pOf i, trA 0, trA 1, .nils] → r.m = mOf i → r.v = .tup [trA q, .agg [x, y], .int .i64 0] → sliceB x = true → sliceB y = true → Syms.str q = some s → 
      Calls Tryz.prog 8 #[.pointer (some p), trV a, trV b, .slice none 0 0] W fun e W' => (∃ p1 n1 c1 p2 n2 c2, e = .returned (.tuple #[trV s, .agg #[.slice p1 n1 c1, .slice p2 n2 c2], .int .i64 0])) ∧ Below B W W' := by
    intro r q x y s hr hf hl hm hv hx hy hs
    have h := rec_does hr (hm ▸ hW) hG (Below.refl _ _) (hl ▸ htr) (by rw [hf]; exact enter_run Tryz.func8 rfl (by kernel_rfl))
    rw [hf] at h
    refine h.mono ?_
    rintro e W' ⟨u, ρ', rfl, hu, _, _, hb⟩
    refine ⟨?_, hb⟩
    rw [hv] at hu
    cases hu with
    | tup _ L hu =>
      cases hu with
      | cons _ _ v1 L hu1 hu =>
        cases hu with
        | cons _ _ v2 L hu2 hu =>
          cases hu with
          | cons _ _ v3 L hu3 hu =>
            cases hu
            cases hu3
            cases hu2 with
            | agg _ L hu2 =>
              cases hu2 with
              | cons _ _ v1 L hx1 hu2 =>
                cases hu2 with
                | cons _ _ v2 L hy1 hu2 =>
                  cases hu2
                  obtain ⟨p1, n1, c1, rfl⟩ := slice_inv hx hx1
                  obtain ⟨p2, n2, c2, rfl⟩ := slice_inv hy hy1
                  cases hu1 with
                  | agg _ L hu1 =>
                    cases hu1 with
                    | cons _ _ v1 L k1 hu1 =>
                      cases hu1 with
                      | cons _ _ v2 L k2 hu1 =>
                        cases hu1 with
                        | cons _ _ v3 L k3 hu1 =>
                          cases hu1 with
                          | cons _ _ v4 L k4 hu1 =>
                            cases hu1
                            cases k1
                            cases k3
                            cases k4
                            obtain ⟨s', rfl, hs'⟩ := tok_inv k2
                            obtain rfl : s = s' := Option.some.inj (hs.symm.trans hs')
                            exact ⟨p1, n1, c1, p2, n2, c2, rfl⟩
  obtain rfl | rfl : i = 0 ∨ i = 1 := by omega
  · by_cases he : canonF 0 a = canonF 0 b
    · rw [if_pos he]
      exact fin rr29 0 _ _ a (rec_of (n := 200) mixed mtOk (fsX_ok (fsOk primsAny) (ent4s 0 a b ha hb he) h47) (rs := []) (List.forall_mem_nil _) rt29) rfl rfl rfl rfl rfl rfl rfl
    · rw [if_neg he]
      exact fin rr30 1 _ _ b (rec_of (n := 200) mixed mtOk (fsX_ok (fsOk primsAny) (ent4d 0 a b ha hb he) h47) (rs := []) (List.forall_mem_nil _) rt30) rfl rfl rfl rfl rfl rfl rfl
  · by_cases he : canonF 1 a = canonF 1 b
    · rw [if_pos he]
      exact fin rr32 0 _ _ a (rec_of (n := 200) mixed mtOk (fsX_ok (fsOk primsAny) (ent4s 1 a b ha hb he) h47) (rs := []) (List.forall_mem_nil _) rt32) rfl rfl rfl rfl rfl rfl rfl
    · rw [if_neg he]
      exact fin rr33 1 _ _ b (rec_of (n := 200) mixed mtOk (fsX_ok (fsOk primsAny) (ent4d 1 a b ha hb he) h47) (rs := []) (List.forall_mem_nil _) rt33) rfl rfl rfl rfl rfl rfl rfl
def tabZ : List Int := [1, 10, 100, 1000, 10000, 100000, 1000000, 10000000, 100000000, 1000000000, 10000000000, 100000000000, 1000000000000, 10000000000000, 100000000000000, 1000000000000000, 10000000000000000, 100000000000000000, 1000000000000000000, 10000000000000000000]
noncomputable def tab0 : List (Nat × List AV) := [(5, tabZ.map fun z => AV.int .u64 z)]
theorem sizeG8 : Tryz.prog.globals.size = 8 := by kernel_rfl
theorem tabs_later [Syms] {W W' : World} (hT : TabAt Tryz.prog W 5 (tabZ.map fun z => AV.int .u64 z)) (hsz : Tryz.prog.globals.size + 1 ≤ W.heap.size) (hb : Below W.heap.size W W') : ∀ p ∈ tab0, TabAt Tryz.prog W' p.1 p.2 :=
  List.forall_mem_cons.2 ⟨hT.later (by omega) hb, List.forall_mem_nil _⟩
theorem like_vr [Syms] (ρ : Rho) (i : Nat) : VR ρ (likeN i) (.string (likeS i)) := by
  unfold likeN likeS wayS
  split
  · exact .str _ _ _ ⟨by kernel_rfl, by kernel_rfl⟩
  · exact .str _ _ _ ⟨by kernel_rfl, by kernel_rfl⟩
theorem of_at (a b : ByteArray) {W0 : World} (hT : ∀ S : Syms, @TabAt S Tryz.prog W0 5 (tabZ.map fun z => AV.int .u64 z)) (hsz : Tryz.prog.globals.size + 1 ≤ W0.heap.size) (i : Nat) (W : World) (hi : i < 2) (hB : Below W0.heap.size W0 W) :
    Calls Tryz.prog 6 #[.string (likeS i)] W fun e W' => (∃ p, e = .returned (.pointer (some p)) ∧ PutOk a b i p W.heap.size W') ∧ Below W.heap.size W W' := by
  letI : Syms := symsOf i a b
  obtain ⟨hW, hG⟩ := start_wr (W := W) (P := Tryz.prog) (Nat.le_trans hsz hB.size) (tabs_later (hT _) hsz hB)
  have fin : ∀ r : Rec, RecOk Tryz.prog W.heap.size W r → r.f = 6 → r.l = [likeN i] → r.m = mem0 (Tryz.prog.globals.size + 1) tab0 → r.v = pOf i → r.m' = mOf i → isPtr (pOf i) = true → 
      Calls Tryz.prog 6 #[.string (likeS i)] W fun e W' => (∃ p, e = .returned (.pointer (some p)) ∧ PutOk a b i p W.heap.size W') ∧ Below W.heap.size W W' := by
    intro r hr hf hl hm hv hm' hpt
    have h := rec_does hr (hm ▸ hW) hG (Below.refl _ _) (args := #[.string (likeS i)]) (hl ▸ .cons _ _ _ _ (like_vr _ i) .nil) (by rw [hf]; exact enter_run Tryz.func6 rfl (by kernel_rfl))
    rw [hf] at h
    refine h.mono ?_
    rintro e W' ⟨u, ρ', rfl, hu, hW', hle, hb⟩
    rw [hv] at hu
    rw [hm'] at hW'
    refine ⟨?_, hb⟩
    have : ∃ p, u = .pointer (some p) := by
      revert hu hpt
      generalize pOf i = x
      intro hpt hu
      cases hu <;> first | exact ⟨_, rfl⟩ | cases hpt
    obtain ⟨p, rfl⟩ := this
    exact ⟨p, rfl, ρ', hW', globR_le hG hle, hu⟩
  obtain rfl | rfl : i = 0 ∨ i = 1 := by omega
  · exact fin rr28 (rk28 primsAny) rfl rfl (by rw [sizeG8]; kernel_rfl) rfl rfl rfl
  · exact fin rr31 (rk31 primsAny) rfl rfl (by rw [sizeG8]; kernel_rfl) rfl rfl rfl
theorem right_at (s : ByteArray) (hs : s.size ≤ 500) {W0 : World} (hT : ∀ S : Syms, @TabAt S Tryz.prog W0 5 (tabZ.map fun z => AV.int .u64 z)) (hsz : Tryz.prog.globals.size + 1 ≤ W0.heap.size) (W : World) (hB : Below W0.heap.size W0 W) :
    Calls Tryz.prog 7 #[trV s] W fun e W' => (∃ n, (n = 0 ↔ validF s = true) ∧ e = .returned (.int .i64 n)) ∧ Below W.heap.size W W' := by
  letI : Syms := symsOf 0 s s
  obtain ⟨hW, hG⟩ := start_wr (W := W) (P := Tryz.prog) (Nat.le_trans hsz hB.size) (tabs_later (hT _) hsz hB)
  have htr : VRs (rho0 Tryz.prog W) [trA 0] (#[trV s] : Array Value).toList := .cons _ _ _ _ (.agg _ _ (.cons _ _ _ _ (.int _ _) (.cons _ _ _ _ (.tok 0 s rfl) (.cons _ _ _ _ .nils (.cons _ _ _ _ .nils .nil))))) .nil
  have h4 : EntOk Tryz.prog (midOf mnames 0) W.heap.size W 4 (.prim (primL [])) := ent4 0 s s hs hs (fun r hr => by cases hr)
  have fin : ∀ (r : Rec) (n : Int), RecOk Tryz.prog W.heap.size W r → r.f = 7 → r.l = [trA 0] → r.m = mem0 (Tryz.prog.globals.size + 1) tab0 → r.v = .int .i64 n → (n = 0 ↔ validF s = true) →
      Calls Tryz.prog 7 #[trV s] W fun e W' => (∃ n, (n = 0 ↔ validF s = true) ∧ e = .returned (.int .i64 n)) ∧ Below W.heap.size W W' := by
    intro r n hr hf hl hm hv hn
    have h := rec_does hr (hm ▸ hW) hG (Below.refl _ _) (hl ▸ htr) (by rw [hf]; exact enter_run Tryz.func7 rfl (by kernel_rfl))
    rw [hf] at h
    refine h.mono ?_
    rintro e W' ⟨u, ρ', rfl, hu, _, _, hb⟩
    rw [hv] at hu
    cases hu
    exact ⟨⟨n, hn, rfl⟩, hb⟩
  have h47 : ∀ v : Bool, validF s = v → EntOk Tryz.prog (midOf mnames 0) W.heap.size W 47 (.prim (primL [([.tok 0], .bool v)])) := fun v hv => ent47 (by
    intro r hr
    obtain rfl := List.mem_singleton.1 hr
    exact ⟨0, s, rfl, hs, by rw [hv]⟩)
  cases hv : validF s with
  | true =>
    have := fin rr26 _ (rec_of (n := 200) mixed mtOk (fsX_ok (fsOk primsAny) h4 (h47 true hv)) (rs := []) (List.forall_mem_nil _) rt26) rfl rfl (by rw [sizeG8]; kernel_rfl) rfl (by rw [hv]; decide)
    rwa [hv] at this
  | false =>
    have := fin rr27 _ (rec_of (n := 200) mixed mtOk (fsX_ok (fsOk primsAny) h4 (h47 false hv)) (rs := []) (List.forall_mem_nil _) rt27) rfl rfl (by rw [sizeG8]; kernel_rfl) rfl (by rw [hv]; decide)
    rwa [hv] at this
theorem runs_at {W0 : World} (hT : ∀ S : Syms, @TabAt S Tryz.prog W0 5 (tabZ.map fun z => AV.int .u64 z)) (hsz : Tryz.prog.globals.size + 1 ≤ W0.heap.size) (W : World) (hB : Below W0.heap.size W0 W) :
    Calls Tryz.prog 9 #[] W fun e W' => e = .returned (.bool true) ∧ Below W.heap.size W W' := by
  letI : Syms := symsOf 0 ⟨#[]⟩ ⟨#[]⟩
  exact main_true (P := Tryz.prog) (Nat.le_trans hsz hB.size) (l := tab0) (tabs_later (hT _) hsz hB) (rk25 primsAny) (by kernel_rfl) (by rw [sizeG8]; kernel_rfl) (by kernel_rfl) (enter_run Tryz.func9 rfl (by kernel_rfl))
theorem evalCanon_at (a b : ByteArray) {W : World} (hT : ∀ S : Syms, @TabAt S Tryz.prog W 5 (tabZ.map fun z => AV.int .u64 z)) (hsz : Tryz.prog.globals.size + 1 ≤ W.heap.size) :
    Calls Tryz.prog 3 #[.string a, .string b] W fun e W' => e = .returned (.bool true) ∧ Below W.heap.size W W' :=
  canon_walk a b W (PutOk (cut5 a) (cut5 b)) (of_at (cut5 a) (cut5 b) hT hsz) (put_at (cut5 a) (cut5 b) (cut5_size a) (cut5_size b)) (fun s W' hs hB => right_at s hs hT hsz W' hB) (runs_at hT hsz)
end Go.Proofs.YtfieklkhbihhoaaGreatDoor
