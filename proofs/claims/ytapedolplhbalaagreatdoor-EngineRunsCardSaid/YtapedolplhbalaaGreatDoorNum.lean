/- toml.number at the text 1 gives that number, whatever the order in which its table of three marks is gone through. No condition. -/
import Derived.Test.YtapedolplhbalaaGreatDoorProg
import Derived.Test.YtapedolplhbalaaGreatDoorTab
import Derived.WalkKit
import Derived.Handy
import Derived.Laws.IdiomRangeMap
namespace Go.Proofs.YtapedolplhbalaaGreatDoor
open Go Go.RowKit Go.Vm
set_option maxRecDepth 1000000
noncomputable def ftabN : T FEnt := (.node none (.node none (.node none (.node none (.node none (.node none (.node none (.node none .leaf (.node none .leaf (.node (some (.code cc384)) .leaf .leaf))) .leaf) (.node none .leaf (.node (some (.code cc96)) .leaf .leaf))) (.node none (.node none (.node none (.node none .leaf (.node (some (.code cc272)) .leaf .leaf)) .leaf) .leaf) .leaf)) .leaf) (.node none .leaf (.node none (.node none (.node none (.node none (.node none .leaf (.node (some (.code cc268)) .leaf .leaf)) .leaf) .leaf) (.node (some (.code cc44)) (.node none .leaf (.node (some (.code cc172)) .leaf .leaf)) .leaf)) .leaf))) (.node none (.node none (.node none (.node none (.node none (.node none .leaf (.node none .leaf (.node (some (.code cc386)) .leaf .leaf))) .leaf) .leaf) .leaf) (.node none (.node none .leaf (.node none (.node none .leaf (.node (some (.code cc170)) .leaf .leaf)) .leaf)) .leaf)) .leaf)) (.node none (.node none (.node none (.node none (.node none .leaf (.node none .leaf (.node (some (.code cc97)) .leaf .leaf))) .leaf) (.node none (.node none (.node none (.node none (.node none .leaf (.node (some (.code cc265)) .leaf .leaf)) .leaf) .leaf) (.node none (.node none .leaf (.node (some (.code cc169)) .leaf .leaf)) .leaf)) .leaf)) (.node none .leaf (.node none (.node none .leaf (.node none (.node none .leaf (.node (some (.code cc173)) .leaf .leaf)) .leaf)) .leaf))) (.node none (.node none (.node none .leaf (.node none (.node none (.node none (.node none .leaf (.node (some (.code cc275)) .leaf .leaf)) .leaf) .leaf) .leaf)) (.node none (.node none (.node none (.node none (.node none .leaf (.node (some (.code cc267)) .leaf .leaf)) .leaf) .leaf) (.node none (.node none .leaf (.node (some (.code cc171)) .leaf .leaf)) .leaf)) .leaf)) .leaf)))
theorem fkN {H0 : Nat} {W0 : World} : TabOk Tryz.prog (midOf mnames 0) H0 W0 ftabN 0 1 := ⟨trivial, ⟨trivial, ⟨trivial, ⟨trivial, ⟨trivial, ⟨trivial, ⟨trivial, ⟨trivial, trivial, ⟨trivial, trivial, ⟨ent_code Tryz.func384 rfl (by kernel_rfl) tt384, trivial, trivial⟩⟩⟩, trivial⟩, ⟨trivial, trivial, ⟨ent_code Tryz.func96 rfl (by kernel_rfl) tt96, trivial, trivial⟩⟩⟩, ⟨trivial, ⟨trivial, ⟨trivial, ⟨trivial, trivial, ⟨ent_code Tryz.func272 rfl (by kernel_rfl) tt272, trivial, trivial⟩⟩, trivial⟩, trivial⟩, trivial⟩⟩, trivial⟩, ⟨trivial, trivial, ⟨trivial, ⟨trivial, ⟨trivial, ⟨trivial, ⟨trivial, trivial, ⟨ent_code Tryz.func268 rfl (by kernel_rfl) tt268, trivial, trivial⟩⟩, trivial⟩, trivial⟩, ⟨ent_code Tryz.func44 rfl (by kernel_rfl) tt44, ⟨trivial, trivial, ⟨ent_code Tryz.func172 rfl (by kernel_rfl) tt172, trivial, trivial⟩⟩, trivial⟩⟩, trivial⟩⟩⟩, ⟨trivial, ⟨trivial, ⟨trivial, ⟨trivial, ⟨trivial, ⟨trivial, trivial, ⟨trivial, trivial, ⟨ent_code Tryz.func386 rfl (by kernel_rfl) tt386, trivial, trivial⟩⟩⟩, trivial⟩, trivial⟩, trivial⟩, ⟨trivial, ⟨trivial, trivial, ⟨trivial, ⟨trivial, trivial, ⟨ent_code Tryz.func170 rfl (by kernel_rfl) tt170, trivial, trivial⟩⟩, trivial⟩⟩, trivial⟩⟩, trivial⟩⟩, ⟨trivial, ⟨trivial, ⟨trivial, ⟨trivial, ⟨trivial, trivial, ⟨trivial, trivial, ⟨ent_code Tryz.func97 rfl (by kernel_rfl) tt97, trivial, trivial⟩⟩⟩, trivial⟩, ⟨trivial, ⟨trivial, ⟨trivial, ⟨trivial, ⟨trivial, trivial, ⟨ent_code Tryz.func265 rfl (by kernel_rfl) tt265, trivial, trivial⟩⟩, trivial⟩, trivial⟩, ⟨trivial, ⟨trivial, trivial, ⟨ent_code Tryz.func169 rfl (by kernel_rfl) tt169, trivial, trivial⟩⟩, trivial⟩⟩, trivial⟩⟩, ⟨trivial, trivial, ⟨trivial, ⟨trivial, trivial, ⟨trivial, ⟨trivial, trivial, ⟨ent_code Tryz.func173 rfl (by kernel_rfl) tt173, trivial, trivial⟩⟩, trivial⟩⟩, trivial⟩⟩⟩, ⟨trivial, ⟨trivial, ⟨trivial, trivial, ⟨trivial, ⟨trivial, ⟨trivial, ⟨trivial, trivial, ⟨ent_code Tryz.func275 rfl (by kernel_rfl) tt275, trivial, trivial⟩⟩, trivial⟩, trivial⟩, trivial⟩⟩, ⟨trivial, ⟨trivial, ⟨trivial, ⟨trivial, ⟨trivial, trivial, ⟨ent_code Tryz.func267 rfl (by kernel_rfl) tt267, trivial, trivial⟩⟩, trivial⟩, trivial⟩, ⟨trivial, ⟨trivial, trivial, ⟨ent_code Tryz.func171 rfl (by kernel_rfl) tt171, trivial, trivial⟩⟩, trivial⟩⟩, trivial⟩⟩, trivial⟩⟩⟩
noncomputable def rrN : Rec := ⟨44, [.str 1 49], mem0 10 [], .tup [.str 1 49, .int .i64 (.ofNat 0)], ⟨14, .leaf, .leaf⟩⟩
theorem rtN : told (callF ftabN.get mtab loopFuel (callO ftabN.get mtab loopFuel (oraL []) 200) rrN.f rrN.l rrN.m nrm) rrN.m.nx rrN.v rrN.m' = true := by kernel_rfl
theorem rkN {H0 : Nat} {W0 : World} : RecOk Tryz.prog H0 W0 rrN := rec_of (n := 200) mixed mtOk (fs_of fkN) (rs := []) (List.forall_mem_nil _) rtN
theorem one_only {ρ : Rho} {u : Value} (h : VR ρ (.tup [.str 1 49, .int .i64 (.ofNat 0)]) u) : u = .tuple #[.string ⟨#[49]⟩, .int .i64 0] := by
  cases h with
  | tup _ x hx => cases hx with
    | cons _ _ v1 x1 h1 t1 => cases t1 with
      | cons _ _ v2 x2 h2 t2 =>
        cases t2
        obtain ⟨s, rfl, hs⟩ := str_inv h1
        cases int_inv h2
        rw [str_only [49] hs rfl rfl]
        rfl
theorem normal1 (w : World) (hsz : 10 ≤ w.heap.size) : Calls Tryz.prog 44 #[.string ⟨#[49]⟩] w fun e w' => e = .returned (.tuple #[.string ⟨#[49]⟩, .int .i64 0]) ∧ Below w.heap.size w w' := by
  refine (rec_calls (P := Tryz.prog) (r := rrN) hsz rkN rfl (args := #[.string ⟨#[49]⟩]) (fun ρ => VRs.one (.str 1 49 _ ⟨rfl, rfl⟩)) (enter_run Tryz.func44 rfl (by kernel_rfl))).mono ?_
  rintro e w' ⟨⟨u, ρ, rfl, hu⟩, hb⟩
  rw [one_only hu]
  exact ⟨rfl, hb⟩
theorem next_tape {P : Program} {W W' : World} {r m since last : Nat} {seen : Array Nat} {es : Array MapEntry} {clock : Nat} {ty : TypeId} {v : Value} (hr : W.heap[r]? = some (.mapIter (some m) since seen last)) (hm : W.heap[m]? = some (.map es clock))
    (h : (Instr.next (.pointer (some ⟨r, 0, none⟩)) false ty).run P W = .ok v W') : W'.tape = W.tape := by
  simp only [Instr.next, getObj, Sem.run_bind, Sem.run, hr, hm, Result.andThen] at h
  have ht : ∀ {β : Type} (q : Question) (k : Nat → Sem β) {u : β} {W' : World}, ((do let x ← choose q; k x) : Sem β).run P W = .ok u W' → ∃ x w1, w1.tape = W.tape ∧ w1.heap = W.heap ∧ (k x).run P w1 = .ok u W' := by
    intro β q k u W' h
    rw [Sem.run_bind] at h
    simp only [choose, Sem.run] at h
    split at h
    · exact ⟨_, W, rfl, rfl, h⟩
    · exact ⟨_, { W with drawn := W.drawn + 1 }, rfl, rfl, h⟩
  split at h
  · rw [Sem.run_bind] at h; cases h
  · obtain ⟨x, w1, h1, h2, h3⟩ := ht _ _ h
    clear h ht
    split at h3
    · simp only [Sem.run_bind, setObj, Sem.run, h2, hr, Result.andThen] at h3
      cases h3
      exact h1
    · cases h3; exact h1
    · cases h3
theorem ins (w : World) (es : Array MapEntry) (c : Nat) (s : ByteArray) (v : Value) (hf : ∀ w, (Instr.findKey 9 (.string s) es.toList).run Tryz.prog w = .ok none w) :
    (Instr.mapUpdate 173 (.map (some w.heap.size)) (.string s) v).run Tryz.prog (w.alloc (.map es c)) = .ok () (w.alloc (.map (es.push ⟨.string s, v, c⟩) (c + 1))) := by
  have hb : (w.alloc (.map es c)).heap[w.heap.size]? = some (.map es c) := heap_alloc_new w _
  have hk : ∀ w, (Instr.checkKey false 10000 9 (.string s)).run Tryz.prog w = .ok () w := fun w => by kernel_rfl
  simp only [Instr.mapUpdate, Sem.run_bind, run_underlying Tryz.underlying173, Result.andThen, MapKept.run_getObj_map hb, hk, hf, MapKept.run_setObj_map _ hb]
  have e : ∀ o o' : Obj, (w.heap.push o).setIfInBounds w.heap.size o' = w.heap.push o' := by
    intro o o'
    apply Array.toList_inj.1
    rw [Array.toList_setIfInBounds, Array.toList_push, Array.toList_push, List.set_append_right _ _ (by simp)]
    simp
  show Result.ok () { w with heap := (w.heap.push _).setIfInBounds w.heap.size _ } = _
  rw [e]; rfl
theorem num1 
    (hN : ∀ (w : World), 10 ≤ w.heap.size → Calls Tryz.prog 44 #[.string ⟨#[49]⟩] w fun e w' => e = .returned (.tuple #[.string ⟨#[49]⟩, .int .i64 0]) ∧ Below w.heap.size w w') (w : World) (hw0 : 10 ≤ w.heap.size) :
    Calls Tryz.prog 641 #[.string ⟨#[49]⟩] w fun e w' => e = .returned (.tuple #[.string ⟨#[49]⟩, .int .i64 0]) ∧ Below w.heap.size w w' := by
  have hmk := run_makeMap (P := Tryz.prog) 173 w
  have hi0 := ins w #[] 0 ⟨#[48, 120]⟩ (.int .i64 16) (fun w => by kernel_rfl)
  have hi1 := ins w #[⟨.string ⟨#[48, 120]⟩, .int .i64 16, 0⟩] 1 ⟨#[48, 111]⟩ (.int .i64 8) (fun w => by kernel_rfl)
  have hi2 := ins w #[⟨.string ⟨#[48, 120]⟩, .int .i64 16, 0⟩, ⟨.string ⟨#[48, 111]⟩, .int .i64 8, 1⟩] 2 ⟨#[48, 98]⟩ (.int .i64 2) (fun w => by kernel_rfl)
  have hi0 : _ = Result.ok () (w.alloc (.map #[⟨.string ⟨#[48, 120]⟩, .int .i64 16, 0⟩] 1)) := hi0
  have hi1 : _ = Result.ok () (w.alloc (.map #[⟨.string ⟨#[48, 120]⟩, .int .i64 16, 0⟩, ⟨.string ⟨#[48, 111]⟩, .int .i64 8, 1⟩] 2)) := hi1
  have hi2 : _ = Result.ok () (w.alloc (.map #[⟨.string ⟨#[48, 120]⟩, .int .i64 16, 0⟩, ⟨.string ⟨#[48, 111]⟩, .int .i64 8, 1⟩, ⟨.string ⟨#[48, 98]⟩, .int .i64 2, 2⟩] 3)) := hi2
  have hrg := run_range_map (P := Tryz.prog) (w.alloc (.map #[⟨.string ⟨#[48, 120]⟩, .int .i64 16, 0⟩, ⟨.string ⟨#[48, 111]⟩, .int .i64 8, 1⟩, ⟨.string ⟨#[48, 98]⟩, .int .i64 2, 2⟩] 3)) 173 9 3 w.heap.size _ 3 Tryz.underlying173 (heap_alloc_new w _)
  go_enter Tryz.func641, Tryz.ntmps641
  go_wp2
  go_loopw [] (fun w' => ∃ (w1 : World) (seen : Array Nat), w1.Alike (w.alloc (.map #[⟨.string ⟨#[48, 120]⟩, .int .i64 16, 0⟩, ⟨.string ⟨#[48, 111]⟩, .int .i64 8, 1⟩, ⟨.string ⟨#[48, 98]⟩, .int .i64 2, 2⟩] 3)) ∧ w1.tape = w.tape ∧ w' = w1.alloc (.mapIter (some w.heap.size) 3 seen 3)) (fun w' => (leftOf #[⟨.string ⟨#[48, 120]⟩, .int .i64 16, 0⟩, ⟨.string ⟨#[48, 111]⟩, .int .i64 8, 1⟩, ⟨.string ⟨#[48, 98]⟩, .int .i64 2, 2⟩] (w'.iterSeen (w.heap.size + 1))).size)
  case atStart => exact ⟨_, #[], ⟨rfl, rfl, rfl⟩, rfl, rfl⟩
  case round =>
    obtain ⟨w1, seen, hal, htp, rfl⟩ := hrel
    have hsz : w1.heap.size = w.heap.size + 1 := by rw [hal.1]; exact Array.size_push _
    have hb1 : w1.heap[w.heap.size]? = some (.map #[⟨.string ⟨#[48, 120]⟩, .int .i64 16, 0⟩, ⟨.string ⟨#[48, 111]⟩, .int .i64 8, 1⟩, ⟨.string ⟨#[48, 98]⟩, .int .i64 2, 2⟩] 3) := by rw [hal.1]; exact heap_alloc_new w _
    have law := run_next_map (P := Tryz.prog) w1 0 w.heap.size 3 3 seen _ 3 hb1 (by simp) (Nat.le_refl _)
    rw [hsz] at law
    rcases law with ⟨h0, hrun⟩ | ⟨e, he, w2, hal2, hrun⟩
    · have hnx : ∀ ty, (Instr.next (.pointer (some ⟨w.heap.size + 1, 0, none⟩)) false ty).run Tryz.prog (w1.alloc (.mapIter (some w.heap.size) 3 seen 3)) = _ := fun _ => hrun
      go_wp2
      refine wp_loop_rounds 2 ?_
      rw [rounds_succ]
      go_wp2
      have hx : (({ data := #[49] } : ByteArray)[0]).toNat = 49 := rfl
      simp only [hx]
      generalize (Question.appendCap 1 0 5).cut _ = cap
      generalize Builtin.zeroCells _ _ = z
      have hcell : ((((w1.alloc (.mapIter (some w.heap.size) 3 seen 3)).alloc (.cells #[.int .u8 49] 5)).alloc (.cells (#[.int .u8 49] ++ z) 5)).drew).cell? ⟨w.heap.size + 1 + 1 + 1, 0, none⟩ = some (.int .u8 49) := by
        show (World.alloc _ _).cell? _ = _
        rw [World.cell?_alloc_at _ _ _ _ (by show _ = ((w1.heap.push _).push _).size; rw [Array.size_push, Array.size_push, hsz])]
        rw [Array.getElem?_append_left (by decide)]; rfl
      have hconv : (convert 165 9 (.slice (some ⟨w.heap.size + 1 + 1 + 1, 0, none⟩) 1 cap)).run Tryz.prog ((((w1.alloc (.mapIter (some w.heap.size) 3 seen 3)).alloc (.cells #[.int .u8 49] 5)).alloc (.cells (#[.int .u8 49] ++ z) 5)).drew) = .ok (.string ⟨#[49]⟩) ((((w1.alloc (.mapIter (some w.heap.size) 3 seen 3)).alloc (.cells #[.int .u8 49] 5)).alloc (.cells (#[.int .u8 49] ++ z) 5)).drew) := by
        rw [run_convert_bytes_string _ 165 9 5 _ _ _ Tryz.underlying165 Tryz.underlying5 Tryz.underlying9]
        refine (run_bytesToString _ _ 1 cap [49] ?_).trans rfl
        refine run_loadCells _ _ 1 (fun _ => .int .u8 49) fun j hj => ?_
        obtain rfl : j = 0 := by omega
        exact hcell
      rw [rounds_succ]
      go_wp2_with fail
      have hN1 := hN ((((w1.alloc (.mapIter (some w.heap.size) 3 seen 3)).alloc (.cells #[.int .u8 49] 5)).alloc (.cells (#[.int .u8 49] ++ z) 5)).drew) (by show _ ≤ (((w1.alloc _).alloc _).alloc _).heap.size; rw [World.size_alloc, World.size_alloc, World.size_alloc]; omega)
      go_call hN1 as e w' ⟨he, hb⟩
      subst he
      go_wp2_with fail
      go_returns
      refine ⟨rfl, ?_⟩
      have h1 : Below w.heap.size w w1 := ⟨hal.2.1, htp, hal.2.2, by omega, fun k hk => by rw [hal.1]; exact Below.heap_alloc _ _ _ hk⟩
      have h2 : Below w.heap.size w (w1.alloc (.mapIter (some w.heap.size) 3 seen 3)) := h1.alloc (by omega) _
      have h3 := h2.alloc (by rw [World.size_alloc]; omega) (.cells #[.int .u8 49] 5)
      have h4 := h3.alloc (by rw [World.size_alloc, World.size_alloc]; omega) (.cells (#[.int .u8 49] ++ z) 5)
      exact h4.drew.trans (hb.mono (by show _ ≤ (((w1.alloc _).alloc _).alloc _).heap.size; rw [World.size_alloc, World.size_alloc, World.size_alloc]; omega))
    · obtain ⟨hem, hel⟩ := mem_left he
      have hb2 : w2.heap[w.heap.size]? = some (.map #[⟨.string ⟨#[48, 120]⟩, .int .i64 16, 0⟩, ⟨.string ⟨#[48, 111]⟩, .int .i64 8, 1⟩, ⟨.string ⟨#[48, 98]⟩, .int .i64 2, 2⟩] 3) := by rw [hal2.1]; exact hb1
      have hsz2 : w2.heap.size = w.heap.size + 1 := by rw [hal2.1]; exact hsz
      have hk : ∃ s n, s.size = 2 ∧ e.key = .string s ∧ e.val = .int .i64 n := by
        simp only [List.mem_cons, List.not_mem_nil, or_false] at hem
        rcases hem with rfl | rfl | rfl
        · exact ⟨_, _, rfl, rfl, rfl⟩
        · exact ⟨_, _, rfl, rfl, rfl⟩
        · exact ⟨_, _, rfl, rfl, rfl⟩
      obtain ⟨s, n, hs, hke, hva⟩ := hk
      have hen := run_entry_map (P := Tryz.prog) w2 w.heap.size 3 seen _ 3 e hb2 hem (by simp)
      rw [hsz2, hke, hva] at hen
      rw [hke, hva] at hrun
      have htp2 : w2.tape = w.tape := by
        have := next_tape (by rw [← hsz]; exact heap_alloc_new w1 _) (by rw [heap_alloc_old w1 _ (by omega)]; exact hb1) hrun
        exact (show w2.tape = w1.tape from this).trans htp
      have hnx : ∀ ty, (Instr.next (.pointer (some ⟨w.heap.size + 1, 0, none⟩)) false ty).run Tryz.prog (w1.alloc (.mapIter (some w.heap.size) 3 seen 3)) = _ := fun _ => hrun
      go_wp2
      go_roundw
      case rel => exact ⟨w2, seen.push e.born, ⟨hal2.1.trans hal.1, hal2.2.1.trans hal.2.1, hal2.2.2.trans hal.2.2⟩, htp2, rfl⟩
      case measure =>
        rw [← hsz2, World.iterSeen_alloc, hsz2, ← hsz, World.iterSeen_alloc]
        exact left_shrinks _ seen e he
theorem num_at (ρ : Rho) (args : Array Value) (W : World) (hsz : Tryz.prog.globals.size + 1 ≤ W.heap.size) (hv : VRs ρ [.str 1 49] args.toList) :
    Calls Tryz.prog 641 args W fun e W' => (∃ u, e = .returned u ∧ ∀ ρ : Rho, VR ρ (.tup [.str 1 49, .int .i64 (.ofNat 0)]) u) ∧ Below W.heap.size W W' := by
  have hg : Tryz.prog.globals.size = 9 := by kernel_rfl
  rw [hg] at hsz
  generalize hargs : args.toList = L0 at hv
  cases hv with
  | cons _ _ v x h1 t1 =>
    cases t1
    obtain ⟨s, rfl, hs⟩ := str_inv h1
    obtain rfl := str_only [49] hs rfl rfl
    have he : args = #[.string ⟨#[49]⟩] := by apply Array.ext'; simpa using hargs
    subst he
    refine (num1 normal1 W hsz).mono ?_
    rintro e W' ⟨rfl, hb⟩
    exact ⟨⟨_, rfl, fun ρ => .tup _ _ (.cons _ _ _ _ (.str 1 49 _ ⟨rfl, rfl⟩) (VRs.one (.int _ _)))⟩, hb⟩
end Go.Proofs.YtapedolplhbalaaGreatDoor
