/- 'EngineRuns' holds as its card says: for every start that the row lets in the law's call returns true, and leaves what there was as it was. Conditions: the row's own (its listed package-level variables hold what the program's text lays; the card ties them). -/
import Derived.Test.YtapedolplhbalaaGreatDoorCards
import Derived.Test.YtapedolplhbalaaGreatDoorDi
import Derived.Test.YtapedolplhbalaaGreatDoorWit
import Derived.Test.YtapedolplhbalaaGreatDoorF
import Derived.Test.YtapedolplhbalaaGreatDoorQa
import Derived.Test.YtapedolplhbalaaGreatDoorQb
import Derived.Test.YtapedolplhbalaaGreatDoorQc
import Derived.Test.YtapedolplhbalaaGreatDoorQd
import Derived.Test.YtapedolplhbalaaGreatDoorQe
import Derived.Test.YtapedolplhbalaaGreatDoorQf
import Derived.Test.YtapedolplhbalaaGreatDoorQg
import Derived.Test.YtapedolplhbalaaGreatDoorQh
import Derived.Test.YtapedolplhbalaaGreatDoorQi
import Derived.WalkKit
import Derived.ProofKit
import Derived.OpenShut
import Derived.Deep.DeepHandedRow
import Derived.Deep.DeepWitnessRowRef
import Derived.Lib.LaidTab
import Derived.Stop.LaidErr
import Derived.Below
import Derived.ChangeSame
import Derived.Shelf.Vars
import Derived.Test.YtapedolplhbalaaGreatDoorAs
import Derived.LaidHandle
import Derived.Test.YtapedolplhbalaaGreatDoorNum
namespace Go.Proofs.YtapedolplhbalaaGreatDoor.engineRuns
open Go Go.Vm Go.RowKit Go.ChangeShapes Go.WideShapes Go.ChangeAt Go.Shelf
set_option maxRecDepth 1000000
theorem own : ownKnob Tryz.prog.godebug = none := by kernel_rfl
theorem sizeG : Tryz.prog.globals.size = 9 := by kernel_rfl
theorem laid_parts {P : Program} {l ds : List (String × DataW Unit)} {x : String × DataW Unit} {W : World} (h1 : (l.filter fun x => x.2.handleName?.isSome) = [x]) (h2 : (l.filter fun x => x.2.handleName?.isNone) = ds) (h : laidMetH P l W) : laidMet P ds W ∧ handlesMet P [x] W := by
  unfold laidMetH at h
  rw [h1, h2] at h
  exact h
theorem parts {W : World} (h : laidMetH Tryz.prog Rows.engineRunsRow.laid W) : laidMet Tryz.prog laidD W ∧ handlesMet Tryz.prog [("errors.errorType", .iface "internal/reflectlite.rtype" (.agg [.ptr (.lit (.string [101, 114, 114, 111, 114]))]))] W := laid_parts (by kernel_rfl) (by kernel_rfl) h
theorem h_at : Tryz.prog.globalNamed "errors.errorType" = some 0 := by kernel_rfl
theorem h_rt : (Tryz.prog.cutTypes.find? (·.1 == "internal/reflectlite.rtype")).map (·.2) = some 272 := by kernel_rfl
theorem h_size : Tryz.prog.types.size = 683 := by kernel_rfl
theorem h_one : ((List.range 683).filter fun t => Tryz.prog.rowNamed t [101, 114, 114, 111, 114]) = [27] := by kernel_rfl
theorem handle_of_laid {W : World} (h : laidMetH Tryz.prog Rows.engineRunsRow.laid W) : W.cell? ⟨0, 0, none⟩ = some (.iface 272 (.agg #[.pointer (some ⟨9, 27, none⟩)])) := by
  obtain ⟨name, u, ty, e1, e2, e3, e4, e5⟩ := (parts h).2 _ (List.mem_singleton.2 rfl)
  have en : name = [101, 114, 114, 111, 114] := (Option.some.inj e1).symm
  subst en
  obtain rfl := Option.some.inj (h_rt.symm.trans e2)
  have hm : ty ∈ (List.range 683).filter fun t => Tryz.prog.rowNamed t [101, 114, 114, 111, 114] := List.mem_filter.2 ⟨List.mem_range.2 (by rw [← h_size]; exact e3), e4⟩
  rw [h_one] at hm
  obtain rfl := List.mem_singleton.1 hm
  have hh : typeHandle Tryz.prog 27 = .pointer (some ⟨9, 27, none⟩) := by kernel_rfl
  rw [hh] at e5
  simpa using World.var?_cell h_at e5 0
theorem prims {W : World} (hL : laidMetH Tryz.prog Rows.engineRunsRow.laid W) (_ : W.ShapedOpen Tryz.prog) (hlt : 9 < W.heap.size) : Prims W.heap.size W := by
  exact ⟨trivial, prim_as (handle_of_laid hL) (Nat.lt_of_le_of_lt (by decide) hlt) (fun args w => enter_run Tryz.func37 rfl (by kernel_rfl)) asHit, prim_typeOf (e := Extern.ReflectliteType.typeOf) ⟨_, Tryz.func89, by kernel_rfl, by kernel_rfl, by kernel_rfl, by kernel_rfl⟩ (List.forall_mem_cons.2 ⟨fun v w => by kernel_rfl, List.forall_mem_nil _⟩), prim_comparable (e := Extern.ReflectliteType.method fun t => do Extern.Rtype.noPackHeld "Comparable" t; pure (.bool (← typeInfo t).comparable)) ⟨_, Tryz.func699, by kernel_rfl, by kernel_rfl, by kernel_rfl, by kernel_rfl⟩ (List.forall_mem_cons.2 ⟨fun w => by kernel_rfl, List.forall_mem_nil _⟩), prim_cmp ⟨_, Tryz.func282, by kernel_rfl, by kernel_rfl, by kernel_rfl, by kernel_rfl⟩, prim_id ⟨_, Tryz.func400, by kernel_rfl, by kernel_rfl, by kernel_rfl, by kernel_rfl⟩, prim_k (fun args w => enter_run Tryz.func641 rfl (by kernel_rfl)) num_at⟩
theorem tab2 {W : World} (hL : laidMet Tryz.prog laidD W) : Lib.TabIs Tryz.prog W "internal/strconv.uint64pow10" .u64 [1, 10, 100, 1000, 10000, 100000, 1000000, 10000000, 100000000, 1000000000, 10000000000, 100000000000, 1000000000000, 10000000000000, 100000000000000, 1000000000000000, 10000000000000000, 100000000000000000, 1000000000000000000, 10000000000000000000] :=
  Lib.tabIs_of_head (g := 2) (by kernel_rfl) (by kernel_rfl) Tryz.underlying513 Tryz.underlying451 (by kernel_rfl) (by kernel_rfl) (Go.laidMet.tail (Go.laidMet.tail (Go.laidMet.tail (Go.laidMet.tail hL))))
theorem walk {W : World} (hL : laidMetH Tryz.prog Rows.engineRunsRow.laid W) (hsh : W.ShapedOpen Tryz.prog) : Calls Tryz.prog 3 #[] W fun e W' => e = .returned (.bool true) ∧ Below W.heap.size W W' := by
  have hlt : Tryz.prog.globals.size < W.heap.size := by
    obtain ⟨ob, ob0, h1, _⟩ := hsh.2 Tryz.prog.globals.size (Nat.le_refl _) (of_decide_eq_true (by kernel_rfl))
    exact (Array.getElem?_eq_some_iff.1 h1).1
  have hx : Prims W.heap.size W := prims hL hsh (by rw [sizeG] at hlt; exact hlt)
  exact main_true hlt (l := [(2, ([1, 10, 100, 1000, 10000, 100000, 1000000, 10000000, 100000000, 1000000000, 10000000000, 100000000000, 1000000000000, 10000000000000, 100000000000000, 1000000000000000, 10000000000000000, 100000000000000000, 1000000000000000000, 10000000000000000000] : List Int).map fun z => AV.int .u64 z)]) (List.forall_mem_cons.2 ⟨tab_int (g := 2) (by kernel_rfl) (by rw [sizeG]; decide) (tab2 (parts hL).1), List.forall_mem_nil _⟩) (rk15 hx) (by kernel_rfl) (by kernel_rfl) (by kernel_rfl) (enter_run Tryz.func3 rfl (by kernel_rfl))
theorem postBelow {H : Type} {enc : TypeId × Value → H} {P : Program} {f : Func} {s : ChangeSpec} {apart fresh handsOn again : Bool} {W W' : World} {args : Array Value} {v : Value} {ds gs : List (DataW H)} {before pa pv : List MemPlace}
    (hW : DataW.Whole enc P f.params.toList s.vars apart W args.toList ds gs before)
    (hres : ∀ (b : Nat) (sp : Nat → Bool) (hd : Bool), DataW.TrodAll enc P W' b sp hd f.resultTypes.toList (v.resultList f.resultTypes.size) (s.fn H (ds ++ gs)).results [])
    (hargs : ∀ sp : Nat → Bool, (∀ p ∈ before, sp p.block = true) → DataW.TrodAll enc P W' 0 sp true f.params.toList args.toList (s.fn H (ds ++ gs)).args pa)
    (hvars : ∀ sp : Nat → Bool, (∀ p ∈ before, sp p.block = true) → DataW.TrodVars enc P W' sp s.vars (s.fn H (ds ++ gs)).vars pv)
    (hps : before = pa ++ pv) (hb : Below W.heap.size W W')
    (hok : ∀ (j : Nat) (t : TypeId) (r : Value), f.resultTypes[j]? = some t → (v.resultList f.resultTypes.size)[j]? = some r → Value.okWide P W' .any 0 t r) :
    s.post enc P f apart fresh handsOn again W args v W' := by
  have hlt : ∀ p ∈ before, p.block < W.heap.size := fun p hp => hW.lt p hp
  have hold : ∀ p ∈ before, (fun b => decide (b < W.heap.size)) p.block = true := fun p hp => by simpa using hlt p hp
  refine ⟨ds, gs, before, [], pa, pv, hW, hres _ _ _, hargs _ hold, hvars _ hold, World.keptBut_mono (fun p hp => ⟨hp, ?_⟩) (hb.frame (· ∈ before)), fun _ => ?_⟩
  · rw [hps, List.mem_append] at hp
    exact Or.inr hp
  · obtain ⟨_, _, _, _, _, hz, hn⟩ := hW
    refine ⟨hok, _, _, ([] ++ pa) ++ pv, ⟨[] ++ pa, pv, trodAll_append (hargs _ (fun _ _ => rfl)) (hres _ _ _), hvars _ (fun _ _ => rfl), rfl, ?_, ?_⟩, ?_⟩
    · intro b off hp
      have hin : MemPlace.cell b off ∈ before := by rw [hps]; simpa using hp
      rw [hb.frozen (hlt _ hin)]
      exact hz b off hin
    · intro ha
      have := hn ha
      rw [hps] at this
      simpa using this
    · intro p hp _
      rw [hps]
      simpa using hp
theorem contract (H : Type) (enc : TypeId × Value → H) (W : World) (_ : Nat) (args : Array Value) (ds gs : List (DataW H)) (before : List MemPlace)
    (hW : DataW.Whole enc Tryz.prog Tryz.f3.params.toList Rows.engineRunsSpec.vars false W args.toList ds gs before) (hL : laidMetH Tryz.prog Rows.engineRunsRow.laid W) (hsh : W.ShapedOpen Tryz.prog) :
    Calls Tryz.prog 3 args W fun e W' => ∃ v, e = .returned v ∧ Rows.engineRunsSpec.post enc Tryz.prog Tryz.f3 false true false false W args v W' := by
  have hW' := hW
  obtain ⟨p, q, hA0, hV, rfl, hfz, hnd⟩ := hW
  have hA : DataW.TrodAll enc Tryz.prog W 0 (fun _ => true) true Tryz.f3.params.toList args.toList ds p := hA0
  have hp : Tryz.f3.params.toList = [] := rfl
  rw [hp] at hA
  obtain ⟨ha, rfl, rfl⟩ := trodAll_nil hA
  obtain rfl : args = #[] := by cases args; simp_all
  obtain ⟨rfl, rfl⟩ := trodVars_none hV
  refine (walk hL hsh).mono ?_
  rintro e W' ⟨rfl, hb⟩
  exact ⟨_, rfl, postBelow (pa := []) (pv := []) hW' (fun _ _ _ => trodAll_cons_mk (shut_bool Tryz.underlying4 _) trodAll_mk0) (fun _ _ => trodAll_mk0) (fun _ _ => rfl) rfl hb (ok_one (by kernel_rfl) rfl (okWide_bool_mk Tryz.underlying4 _))⟩
theorem lifted (os : Os) (started : os.Started) (H : Type) (enc : TypeId × Value → H) (F : Stop.Interp) :
    ReturnsInHanded {} Tryz.checked os 3 .any ((OpenSpec.ofChange Rows.engineRunsSpec).preRow enc Tryz.prog Tryz.f3 Rows.engineRunsRow.domain false Rows.engineRunsRow.laid) (((OpenSpec.ofChange Rows.engineRunsSpec).at F).post enc Tryz.prog Tryz.f3 false true false false) := by
  refine returnsInHanded_of_row (C := Tryz.checked) (s := OpenSpec.ofChange Rows.engineRunsSpec) own started (by kernel_rfl) Tryz.func3
    (witness_row_atRef (enc := enc) (C := Tryz.checked) false (laidWorld os) #[] rfl (wit_c os) (wit_d os) (wit_e os)
      (OpenSpec.preRow_of_cond 8 (reads os enc) (by kernel_rfl) (fun k hk => by cases hk) (by kernel_rfl) (laid_met os))) ?_
  intro W base args ds gs before hval hW _ _ _ hL hsh _
  exact contract H enc W base args ds gs before hW hL hsh
theorem am {a b : Bool} (ha : a = true) (hb : b = true) : (a && b) = true := by rw [ha, hb]; rfl
theorem closed : joinedFacts Tryz.pinned.checked.prog 3 Tryz.f3 (OpenSpec.ofChange Rows.engineRunsSpec).bare Rows.engineRunsRow = true := (am (am (am (am (am (am (am (am (am (am (am (am (am (am (am (am (am (am (am (am (am (am (am (am (am (am (am (am (am (am (am q0 q1) q2) q3) q4) q5) q6) q7) q8) q9) q10) q11) q12) q13) q14) q15) q16) q17) q18) q19) q20) q21) q22) q23) q24) q25) q26) q27) q28) q29) q30) q31)
theorem said : Rows.EngineRunsSaid :=
  OpenClaim.holds_of_cond 3 Tryz.f3 rfl rfl rfl rfl rfl rfl rfl ⟨rfl, rfl, rfl, rfl, rfl⟩ rfl rfl rfl rfl rfl (by kernel_rfl) Tryz.func3 closed
    (of_decide_eq_true (by kernel_rfl)) (by unfold Func.isWrapper; first | (rw [if_pos (by decide +kernel)]; kernel_rfl) | (rw [if_neg (by decide +kernel)]; exact ⟨rfl, rfl⟩))
    (fun os started H enc _ F => by rw [OpenClaim.pre_eq_preRow]; exact lifted os started H enc F)
theorem plain (f : FuncId) (fn : Func) (hf : Tryz.pinned.checked.prog.funcNamed "emend/emendlaw18.EngineRuns" = some f) (hfn : Tryz.pinned.checked.prog.funcs[f]? = some fn) :
    true = Tryz.pinned.checked.prog.looks [] ∧ ∀ (j : Nat) t, fn.params[j]? = some t → Tryz.pinned.checked.prog.wantsStandIn t = false := by
  obtain rfl : f = 3 := Option.some.inj ((show Tryz.prog.funcNamed "emend/emendlaw18.EngineRuns" = some 3 by kernel_rfl).symm.trans hf) |>.symm
  obtain rfl : fn = Tryz.f3 := (Option.some.inj (Tryz.func3.symm.trans hfn)).symm
  refine ⟨looked, fun j t ht => ?_⟩
  have hp : Tryz.f3.params = #[] := rfl
  rw [hp] at ht
  simp at ht
theorem card : Rows.EngineRunsCardSaid :=
  Claim7.holds_tied_plain_at .later [] _ _ _ _ said (fun _ h => by cases h) (by kernel_rfl) (fun _ h => by cases h) engineRuns_row_tie rfl ⟨rfl, rfl⟩ harness rfl plain goes
end Go.Proofs.YtapedolplhbalaaGreatDoor.engineRuns
