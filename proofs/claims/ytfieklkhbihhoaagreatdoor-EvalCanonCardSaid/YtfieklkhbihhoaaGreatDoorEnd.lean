/- 'EvalCanon' holds as its card says: for every start that the row lets in the law's call returns true, and leaves what there was as it was. Conditions: the row's own (its listed package-level variables hold what the program's text lays; the card ties them). -/
import Derived.Test.YtfieklkhbihhoaaGreatDoorCards
import Derived.Test.YtfieklkhbihhoaaGreatDoorTie
import Derived.Test.YtfieklkhbihhoaaGreatDoorWit
import Derived.Test.YtfieklkhbihhoaaGreatDoorJ
import Derived.Test.YtfieklkhbihhoaaGreatDoorQa
import Derived.Test.YtfieklkhbihhoaaGreatDoorQb
import Derived.Test.YtfieklkhbihhoaaGreatDoorQc
import Derived.Test.YtfieklkhbihhoaaGreatDoorQd
import Derived.Test.YtfieklkhbihhoaaGreatDoorQe
import Derived.Test.YtfieklkhbihhoaaGreatDoorQf
import Derived.Test.YtfieklkhbihhoaaGreatDoorQg
import Derived.Test.YtfieklkhbihhoaaGreatDoorQh
import Derived.Test.YtfieklkhbihhoaaGreatDoorQi
import Derived.WalkKit
import Derived.ProofKit
import Derived.OpenShut
import Derived.Deep.DeepHandedRow
import Derived.Deep.DeepWitnessRowRef
import Derived.Lib.LaidTab
import Derived.Stop.LaidErr
import Derived.Below
import Derived.ChangeSame
import Derived.Shelf.Vars
import Derived.ChangeMaps5
namespace Go.Proofs.YtfieklkhbihhoaaGreatDoor.evalCanon
open Go Go.Vm Go.RowKit Go.ChangeShapes Go.WideShapes Go.ChangeAt Go.Shelf
set_option maxRecDepth 1000000
theorem own : ownKnob Tryz.prog.godebug = none := by kernel_rfl
theorem sizeG : Tryz.prog.globals.size = 8 := by kernel_rfl
theorem tab5 {W : World} (hL : laidMet Tryz.prog Rows.evalCanonRow.laid W) : Lib.TabIs Tryz.prog W "internal/strconv.uint64pow10" .u64 [1, 10, 100, 1000, 10000, 100000, 1000000, 10000000, 100000000, 1000000000, 10000000000, 100000000000, 1000000000000, 10000000000000, 100000000000000, 1000000000000000, 10000000000000000, 100000000000000000, 1000000000000000000, 10000000000000000000] :=
  Lib.tabIs_of_head (g := 5) (by kernel_rfl) (by kernel_rfl) Tryz.underlying410 Tryz.underlying302 (by kernel_rfl) (by kernel_rfl) (Go.laidMet.tail (Go.laidMet.tail hL))
theorem walk {W : World} (hL : laidMet Tryz.prog Rows.evalCanonRow.laid W) (hsh : W.ShapedOpen Tryz.prog) (a b : ByteArray) : Calls Tryz.prog 3 #[.string a, .string b] W fun e W' => e = .returned (.bool true) ∧ Below W.heap.size W W' := by
  have hlt : Tryz.prog.globals.size < W.heap.size := by
    obtain ⟨ob, ob0, h1, _⟩ := hsh.2 Tryz.prog.globals.size (Nat.le_refl _) (of_decide_eq_true (by kernel_rfl))
    exact (Array.getElem?_eq_some_iff.1 h1).1
  exact evalCanon_at a b (fun _ => tab_int (g := 5) (by kernel_rfl) (by rw [sizeG]; decide) (tab5 hL)) hlt
theorem postBelow {H : Type} {enc : TypeId × Value → H} {P : Program} {f : Func} {s : ChangeSpec} {apart fresh handsOn again : Bool} {W W' : World} {args : Array Value} {v : Value} {ds gs : List (DataW H)} {before pa pv : List MemPlace}
    (hW : DataW.Whole enc P f.params.toList s.vars apart W args.toList ds gs before)
    (hres : ∀ (b : Nat) (sp : Nat → Bool) (hd : Bool), DataW.TrodAll enc P W' b sp hd f.resultTypes.toList (v.resultList f.resultTypes.size) (s.fn H (ds ++ gs)).results [])
    (hargs : ∀ sp : Nat → Bool, (∀ p ∈ before, sp p.block = true) → DataW.TrodAll enc P W' 0 sp true f.params.toList args.toList (s.fn H (ds ++ gs)).args pa)
    (hvars : ∀ sp : Nat → Bool, (∀ p ∈ before, sp p.block = true) → DataW.TrodVars enc P W' sp s.vars (s.fn H (ds ++ gs)).vars pv)
    (hps : before = pa ++ pv) (hb : Below W.heap.size W W')
    (hok : ∀ (j : Nat) (t : TypeId) (r : Value), f.resultTypes[j]? = some t → (v.resultList f.resultTypes.size)[j]? = some r → Value.okWide P W' .any 0 t r) :
    s.post enc P f apart fresh handsOn again W args v W' := by
  have hlt : ∀ p ∈ before, p.block < W.heap.size := fun p hp => hW.lt p hp
  have hold : ∀ p ∈ before, (fun b => decide (b < W.heap.size)) p.block = true := fun p hp => by simpa using hlt p hp
  refine ⟨ds, gs, before, [], pa, pv, hW, hres _ _ _, hargs _ hold, hvars _ hold, World.keptBut_mono (fun p hp => ⟨hp, ?_⟩) (hb.frame (· ∈ before)), fun _ => ?_⟩
  · rw [hps, List.mem_append] at hp
    exact Or.inr hp
  · obtain ⟨_, _, _, _, _, hz, hn⟩ := hW
    refine ⟨hok, _, _, ([] ++ pa) ++ pv, ⟨[] ++ pa, pv, trodAll_append (hargs _ (fun _ _ => rfl)) (hres _ _ _), hvars _ (fun _ _ => rfl), rfl, ?_, ?_⟩, ?_⟩
    · intro b off hp
      have hin : MemPlace.cell b off ∈ before := by rw [hps]; simpa using hp
      rw [hb.frozen (hlt _ hin)]
      exact hz b off hin
    · intro ha
      have := hn ha
      rw [hps] at this
      simpa using this
    · intro p hp _
      rw [hps]
      simpa using hp
theorem contract (H : Type) (enc : TypeId × Value → H) (W : World) (base : Nat) (args : Array Value) (ds gs : List (DataW H)) (before : List MemPlace)
    (hval : ∀ (j : Nat) t v, Tryz.f3.params[j]? = some t → args[j]? = some v → Value.okWide Tryz.prog W .any base t v)
    (hW : DataW.Whole enc Tryz.prog Tryz.f3.params.toList Rows.evalCanonSpec.vars false W args.toList ds gs before) (hL : laidMetH Tryz.prog Rows.evalCanonRow.laid W) (hsh : W.ShapedOpen Tryz.prog) :
    Calls Tryz.prog 3 args W fun e W' => ∃ v, e = .returned v ∧ Rows.evalCanonSpec.post enc Tryz.prog Tryz.f3 false true false false W args v W' := by
  have hW' := hW
  obtain ⟨p, q, hA0, hV, rfl, hfz, hnd⟩ := hW
  have hA : DataW.TrodAll enc Tryz.prog W 0 (fun _ => true) true [9, 9] args.toList ds p := hA0
  obtain ⟨v1, v2, d1, d2, p1, p2, rfl, rfl, rfl, h1, h2⟩ := trodAll_two hA
  obtain ⟨a, rfl, rfl, rfl, ha⟩ := Go.ChangeMaps.open_string Tryz.underlying9 (hval 0 9 v1 rfl rfl) h1
  obtain ⟨b, rfl, rfl, rfl, hb⟩ := Go.ChangeMaps.open_string Tryz.underlying9 (hval 1 9 v2 rfl rfl) h2
  obtain ⟨rfl, rfl⟩ := trodVars_none hV
  refine (walk hL hsh a b).mono ?_
  rintro e W' ⟨rfl, hbl⟩
  exact ⟨_, rfl, postBelow (pa := []) (pv := []) hW' (fun _ _ _ => trodAll_cons_mk (shut_bool Tryz.underlying4 _) trodAll_mk0)
    (fun _ _ => trodAll_cons_mk (p := []) (p' := []) (Go.ChangeMaps.shut_string Tryz.underlying9 ha) (trodAll_cons_mk (p := []) (p' := []) (Go.ChangeMaps.shut_string Tryz.underlying9 hb) trodAll_mk0)) (fun _ _ => rfl) rfl hbl (ok_one (by kernel_rfl) rfl (okWide_bool_mk Tryz.underlying4 _))⟩
theorem lifted (os : Os) (started : os.Started) (H : Type) (enc : TypeId × Value → H) (F : Stop.Interp) :
    ReturnsInHanded {} Tryz.checked os 3 .any ((OpenSpec.ofChange Rows.evalCanonSpec).preRow enc Tryz.prog Tryz.f3 Rows.evalCanonRow.domain false Rows.evalCanonRow.laid) (((OpenSpec.ofChange Rows.evalCanonSpec).at F).post enc Tryz.prog Tryz.f3 false true false false) := by
  refine returnsInHanded_of_row (C := Tryz.checked) (s := OpenSpec.ofChange Rows.evalCanonSpec) own started (by kernel_rfl) Tryz.func3
    (witness_row_atRef (enc := enc) (C := Tryz.checked) false (laidWorld os) #[.string ⟨#[]⟩, .string ⟨#[]⟩] rfl (wit_c os) (wit_d os) (wit_e os)
      (OpenSpec.preRow_of_cond 8 (reads os enc) (by kernel_rfl) (fun k hk => by cases hk) (by kernel_rfl) (laid_met os))) ?_
  intro W base args ds gs before hval hW _ _ _ hL hsh _
  exact contract H enc W base args ds gs before hval hW hL hsh
theorem am {a b : Bool} (ha : a = true) (hb : b = true) : (a && b) = true := by rw [ha, hb]; rfl
theorem closed : joinedFacts Tryz.pinned.checked.prog 3 Tryz.f3 (OpenSpec.ofChange Rows.evalCanonSpec).bare Rows.evalCanonRow = true := (am (am (am (am (am (am (am (am (am (am (am (am (am (am (am (am (am (am (am (am (am (am (am (am (am (am (am (am (am (am (am q0 q1) q2) q3) q4) q5) q6) q7) q8) q9) q10) q11) q12) q13) q14) q15) q16) q17) q18) q19) q20) q21) q22) q23) q24) q25) q26) q27) q28) q29) q30) q31)
theorem said : Rows.EvalCanonSaid :=
  OpenClaim.holds_of_cond 3 Tryz.f3 rfl rfl rfl rfl rfl rfl rfl ⟨rfl, rfl, rfl, rfl, rfl⟩ rfl rfl rfl rfl rfl (by kernel_rfl) Tryz.func3 closed
    (of_decide_eq_true (by kernel_rfl)) (by unfold Func.isWrapper; first | (rw [if_pos (by decide +kernel)]; kernel_rfl) | (rw [if_neg (by decide +kernel)]; exact ⟨rfl, rfl⟩))
    (fun os started H enc _ F => by rw [OpenClaim.pre_eq_preRow]; exact lifted os started H enc F)
theorem plain (f : FuncId) (fn : Func) (hf : Tryz.pinned.checked.prog.funcNamed "emend/emendlaw16.EvalCanon" = some f) (hfn : Tryz.pinned.checked.prog.funcs[f]? = some fn) :
    true = Tryz.pinned.checked.prog.looks [] ∧ ∀ (j : Nat) t, fn.params[j]? = some t → Tryz.pinned.checked.prog.wantsStandIn t = false := by
  obtain rfl : f = 3 := Option.some.inj ((show Tryz.prog.funcNamed "emend/emendlaw16.EvalCanon" = some 3 by kernel_rfl).symm.trans hf) |>.symm
  obtain rfl : fn = Tryz.f3 := (Option.some.inj (Tryz.func3.symm.trans hfn)).symm
  refine ⟨looked, fun j t ht => ?_⟩
  have hp : Tryz.f3.params = #[9, 9] := rfl
  rw [hp] at ht
  have h9 : Tryz.pinned.checked.prog.wantsStandIn 9 = false := by kernel_rfl
  match j, ht with
  | 0, ht => obtain rfl := Option.some.inj ht; exact h9
  | 1, ht => obtain rfl := Option.some.inj ht; exact h9
  | k + 2, ht => simp at ht
theorem card : Rows.EvalCanonCardSaid :=
  Claim7.holds_tied_plain_at .later [] _ _ _ _ said (fun _ h => by cases h) (by kernel_rfl) (fun _ h => by cases h) evalCanon_row_tie rfl ⟨rfl, rfl⟩ harness rfl plain goes
end Go.Proofs.YtfieklkhbihhoaaGreatDoor.evalCanon
