/- 'ConsoleRuns' holds as its card says: for every start that the row lets in the law's call returns true, and leaves what there was as it was. Conditions: the row's own (its listed package-level variables hold what the program's text lays; the card ties them). -/
import Derived.Test.YtoobchopgbgepaaGreatDoorCards
import Derived.Test.YtoobchopgbgepaaGreatDoorDi
import Derived.Test.YtoobchopgbgepaaGreatDoorWit
import Derived.Test.YtoobchopgbgepaaGreatDoorF
import Derived.Test.YtoobchopgbgepaaGreatDoorQa
import Derived.Test.YtoobchopgbgepaaGreatDoorQb
import Derived.Test.YtoobchopgbgepaaGreatDoorQc
import Derived.Test.YtoobchopgbgepaaGreatDoorQd
import Derived.Test.YtoobchopgbgepaaGreatDoorQe
import Derived.Test.YtoobchopgbgepaaGreatDoorQf
import Derived.Test.YtoobchopgbgepaaGreatDoorQg
import Derived.Test.YtoobchopgbgepaaGreatDoorQh
import Derived.Test.YtoobchopgbgepaaGreatDoorQi
import Derived.WalkKit
import Derived.ProofKit
import Derived.OpenShut
import Derived.Deep.DeepHandedRow
import Derived.Deep.DeepWitnessRowRef
import Derived.Lib.LaidTab
import Derived.Stop.LaidErr
import Derived.Below
import Derived.ChangeSame
import Derived.Shelf.Vars
namespace Go.Proofs.YtoobchopgbgepaaGreatDoor.consoleRuns
open Go Go.Vm Go.RowKit Go.ChangeShapes Go.WideShapes Go.ChangeAt Go.Shelf
set_option maxRecDepth 1000000
theorem own : ownKnob Tryz.prog.godebug = none := by kernel_rfl
theorem sizeG : Tryz.prog.globals.size = 8 := by kernel_rfl
def ren : Ren := ⟨fun x => match x with | 219 => 62 | 217 => 113 | 225 => 114 | 224 => 115 | 267 => 116 | 266 => 211 | 314 => 212 | n => n, fun x => match x with | 9 => 9 | 3 => 3 | 4 => 4 | 5 => 5 | 46 => 198 | 146 => 309 | 51 => 308 | n => n, fun x => match x with | 1 => 0 | n => n⟩
theorem lays : Lays.n219 Tryz.prog ren := { mixed := by kernel_rfl, f219 := Tryz.func62, f217 := Tryz.func113, f225 := Tryz.func114, f224 := Tryz.func115, f267 := Tryz.func116, f266 := Tryz.func211, f314 := Tryz.func212, t9 := Tryz.underlying9, a9 := Tryz.isAgg9, z9 := Tryz.sizeOf9, v9 := Tryz.zeroValue9, t3 := Tryz.underlying3, a3 := Tryz.isAgg3, z3 := Tryz.sizeOf3, v3 := Tryz.zeroValue3, t4 := Tryz.underlying4, a4 := Tryz.isAgg4, z4 := Tryz.sizeOf4, v4 := Tryz.zeroValue4, t5 := Tryz.underlying5, a5 := Tryz.isAgg5, z5 := Tryz.sizeOf5, v5 := Tryz.zeroValue5, t46 := Tryz.underlying198, a46 := Tryz.isAgg198, z46 := Tryz.sizeOf198, v46 := Tryz.zeroValue198, t146 := Tryz.underlying309, a146 := Tryz.isAgg309, z146 := Tryz.sizeOf309, v146 := Tryz.zeroValue309, t51 := Tryz.underlying308, a51 := Tryz.isAgg308, z51 := Tryz.sizeOf308, v51 := Tryz.zeroValue308, g1 := by kernel_rfl }
theorem prims {W : World} (_ : laidMet Tryz.prog Rows.consoleRunsRow.laid W) (hsh : W.ShapedOpen Tryz.prog) (hlt : 8 < W.heap.size) : Prims W.heap.size W := by
  obtain ⟨m, hm⟩ := cell_of_shapedOpen_int (g := 0) (t := 3) (zero := #[.int .i64 0]) (k := .i64) hsh (by rw [sizeG]; decide) (by kernel_rfl) rfl (by kernel_rfl) (by kernel_rfl) Tryz.underlying3
  exact ⟨trivial, prim_id ⟨_, Tryz.func73, by kernel_rfl, by kernel_rfl, by kernel_rfl, by kernel_rfl⟩, prim_count ⟨_, Tryz.func125, by kernel_rfl, by kernel_rfl, by kernel_rfl, by kernel_rfl⟩, prim_mnz (ps := #[3]) (t := 53) ⟨_, Tryz.func517, by kernel_rfl, by kernel_rfl, by kernel_rfl, by kernel_rfl⟩ Tryz.underlying53, prim_index lays hm (Nat.lt_of_le_of_lt (by decide) hlt) fun args w => enter_run Tryz.func62 rfl (by kernel_rfl)⟩
theorem tab1 {W : World} (hL : laidMet Tryz.prog Rows.consoleRunsRow.laid W) : Lib.TabIs Tryz.prog W "internal/strconv.uint64pow10" .u64 [1, 10, 100, 1000, 10000, 100000, 1000000, 10000000, 100000000, 1000000000, 10000000000, 100000000000, 1000000000000, 10000000000000, 100000000000000, 1000000000000000, 10000000000000000, 100000000000000000, 1000000000000000000, 10000000000000000000] :=
  Lib.tabIs_of_head (g := 1) (by kernel_rfl) (by kernel_rfl) Tryz.underlying315 Tryz.underlying207 (by kernel_rfl) (by kernel_rfl) hL
theorem walk {W : World} (hL : laidMet Tryz.prog Rows.consoleRunsRow.laid W) (hsh : W.ShapedOpen Tryz.prog) : Calls Tryz.prog 3 #[] W fun e W' => e = .returned (.bool true) ∧ Below W.heap.size W W' := by
  have hlt : Tryz.prog.globals.size < W.heap.size := by
    obtain ⟨ob, ob0, h1, _⟩ := hsh.2 Tryz.prog.globals.size (Nat.le_refl _) (of_decide_eq_true (by kernel_rfl))
    exact (Array.getElem?_eq_some_iff.1 h1).1
  have hx : Prims W.heap.size W := prims hL hsh (by rw [sizeG] at hlt; exact hlt)
  exact main_true hlt (l := [(1, ([1, 10, 100, 1000, 10000, 100000, 1000000, 10000000, 100000000, 1000000000, 10000000000, 100000000000, 1000000000000, 10000000000000, 100000000000000, 1000000000000000, 10000000000000000, 100000000000000000, 1000000000000000000, 10000000000000000000] : List Int).map fun z => AV.int .u64 z)]) (List.forall_mem_cons.2 ⟨tab_int (g := 1) (by kernel_rfl) (by rw [sizeG]; decide) (tab1 hL), List.forall_mem_nil _⟩) (rk26 hx) (by kernel_rfl) (by kernel_rfl) (by kernel_rfl) (enter_run Tryz.func3 rfl (by kernel_rfl))
theorem postBelow {H : Type} {enc : TypeId × Value → H} {P : Program} {f : Func} {s : ChangeSpec} {apart fresh handsOn again : Bool} {W W' : World} {args : Array Value} {v : Value} {ds gs : List (DataW H)} {before pa pv : List MemPlace}
    (hW : DataW.Whole enc P f.params.toList s.vars apart W args.toList ds gs before)
    (hres : ∀ (b : Nat) (sp : Nat → Bool) (hd : Bool), DataW.TrodAll enc P W' b sp hd f.resultTypes.toList (v.resultList f.resultTypes.size) (s.fn H (ds ++ gs)).results [])
    (hargs : ∀ sp : Nat → Bool, (∀ p ∈ before, sp p.block = true) → DataW.TrodAll enc P W' 0 sp true f.params.toList args.toList (s.fn H (ds ++ gs)).args pa)
    (hvars : ∀ sp : Nat → Bool, (∀ p ∈ before, sp p.block = true) → DataW.TrodVars enc P W' sp s.vars (s.fn H (ds ++ gs)).vars pv)
    (hps : before = pa ++ pv) (hb : Below W.heap.size W W')
    (hok : ∀ (j : Nat) (t : TypeId) (r : Value), f.resultTypes[j]? = some t → (v.resultList f.resultTypes.size)[j]? = some r → Value.okWide P W' .any 0 t r) :
    s.post enc P f apart fresh handsOn again W args v W' := by
  have hlt : ∀ p ∈ before, p.block < W.heap.size := fun p hp => hW.lt p hp
  have hold : ∀ p ∈ before, (fun b => decide (b < W.heap.size)) p.block = true := fun p hp => by simpa using hlt p hp
  refine ⟨ds, gs, before, [], pa, pv, hW, hres _ _ _, hargs _ hold, hvars _ hold, World.keptBut_mono (fun p hp => ⟨hp, ?_⟩) (hb.frame (· ∈ before)), fun _ => ?_⟩
  · rw [hps, List.mem_append] at hp
    exact Or.inr hp
  · obtain ⟨_, _, _, _, _, hz, hn⟩ := hW
    refine ⟨hok, _, _, ([] ++ pa) ++ pv, ⟨[] ++ pa, pv, trodAll_append (hargs _ (fun _ _ => rfl)) (hres _ _ _), hvars _ (fun _ _ => rfl), rfl, ?_, ?_⟩, ?_⟩
    · intro b off hp
      have hin : MemPlace.cell b off ∈ before := by rw [hps]; simpa using hp
      rw [hb.frozen (hlt _ hin)]
      exact hz b off hin
    · intro ha
      have := hn ha
      rw [hps] at this
      simpa using this
    · intro p hp _
      rw [hps]
      simpa using hp
theorem contract (H : Type) (enc : TypeId × Value → H) (W : World) (_ : Nat) (args : Array Value) (ds gs : List (DataW H)) (before : List MemPlace)
    (hW : DataW.Whole enc Tryz.prog Tryz.f3.params.toList Rows.consoleRunsSpec.vars false W args.toList ds gs before) (hL : laidMetH Tryz.prog Rows.consoleRunsRow.laid W) (hsh : W.ShapedOpen Tryz.prog) :
    Calls Tryz.prog 3 args W fun e W' => ∃ v, e = .returned v ∧ Rows.consoleRunsSpec.post enc Tryz.prog Tryz.f3 false true false false W args v W' := by
  have hW' := hW
  obtain ⟨p, q, hA0, hV, rfl, hfz, hnd⟩ := hW
  have hA : DataW.TrodAll enc Tryz.prog W 0 (fun _ => true) true Tryz.f3.params.toList args.toList ds p := hA0
  have hp : Tryz.f3.params.toList = [] := rfl
  rw [hp] at hA
  obtain ⟨ha, rfl, rfl⟩ := trodAll_nil hA
  obtain rfl : args = #[] := by cases args; simp_all
  obtain ⟨rfl, rfl⟩ := trodVars_none hV
  refine (walk hL hsh).mono ?_
  rintro e W' ⟨rfl, hb⟩
  exact ⟨_, rfl, postBelow (pa := []) (pv := []) hW' (fun _ _ _ => trodAll_cons_mk (shut_bool Tryz.underlying4 _) trodAll_mk0) (fun _ _ => trodAll_mk0) (fun _ _ => rfl) rfl hb (ok_one (by kernel_rfl) rfl (okWide_bool_mk Tryz.underlying4 _))⟩
theorem lifted (os : Os) (started : os.Started) (H : Type) (enc : TypeId × Value → H) (F : Stop.Interp) :
    ReturnsInHanded {} Tryz.checked os 3 .any ((OpenSpec.ofChange Rows.consoleRunsSpec).preRow enc Tryz.prog Tryz.f3 Rows.consoleRunsRow.domain false Rows.consoleRunsRow.laid) (((OpenSpec.ofChange Rows.consoleRunsSpec).at F).post enc Tryz.prog Tryz.f3 false true false false) := by
  refine returnsInHanded_of_row (C := Tryz.checked) (s := OpenSpec.ofChange Rows.consoleRunsSpec) own started (by kernel_rfl) Tryz.func3
    (witness_row_atRef (enc := enc) (C := Tryz.checked) false (laidWorld os) #[] rfl (wit_c os) (wit_d os) (wit_e os)
      (OpenSpec.preRow_of_cond 8 (reads os enc) (by kernel_rfl) (fun k hk => by cases hk) (by kernel_rfl) (laid_met os))) ?_
  intro W base args ds gs before hval hW _ _ _ hL hsh _
  exact contract H enc W base args ds gs before hW hL hsh
theorem am {a b : Bool} (ha : a = true) (hb : b = true) : (a && b) = true := by rw [ha, hb]; rfl
theorem closed : joinedFacts Tryz.pinned.checked.prog 3 Tryz.f3 (OpenSpec.ofChange Rows.consoleRunsSpec).bare Rows.consoleRunsRow = true := (am (am (am (am (am (am (am (am (am (am (am (am (am (am (am (am (am (am (am (am (am (am (am (am (am (am (am (am (am (am (am q0 q1) q2) q3) q4) q5) q6) q7) q8) q9) q10) q11) q12) q13) q14) q15) q16) q17) q18) q19) q20) q21) q22) q23) q24) q25) q26) q27) q28) q29) q30) q31)
theorem said : Rows.ConsoleRunsSaid :=
  OpenClaim.holds_of_cond 3 Tryz.f3 rfl rfl rfl rfl rfl rfl rfl ⟨rfl, rfl, rfl, rfl, rfl⟩ rfl rfl rfl rfl rfl (by kernel_rfl) Tryz.func3 closed
    (of_decide_eq_true (by kernel_rfl)) (by unfold Func.isWrapper; first | (rw [if_pos (by decide +kernel)]; kernel_rfl) | (rw [if_neg (by decide +kernel)]; exact ⟨rfl, rfl⟩))
    (fun os started H enc _ F => by rw [OpenClaim.pre_eq_preRow]; exact lifted os started H enc F)
theorem plain (f : FuncId) (fn : Func) (hf : Tryz.pinned.checked.prog.funcNamed "emend/emendlaw19.ConsoleRuns" = some f) (hfn : Tryz.pinned.checked.prog.funcs[f]? = some fn) :
    true = Tryz.pinned.checked.prog.looks [] ∧ ∀ (j : Nat) t, fn.params[j]? = some t → Tryz.pinned.checked.prog.wantsStandIn t = false := by
  obtain rfl : f = 3 := Option.some.inj ((show Tryz.prog.funcNamed "emend/emendlaw19.ConsoleRuns" = some 3 by kernel_rfl).symm.trans hf) |>.symm
  obtain rfl : fn = Tryz.f3 := (Option.some.inj (Tryz.func3.symm.trans hfn)).symm
  refine ⟨looked, fun j t ht => ?_⟩
  have hp : Tryz.f3.params = #[] := rfl
  rw [hp] at ht
  simp at ht
theorem card : Rows.ConsoleRunsCardSaid :=
  Claim7.holds_tied_plain_at .later [] _ _ _ _ said (fun _ h => by cases h) (by kernel_rfl) (fun _ h => by cases h) consoleRuns_row_tie rfl ⟨rfl, rfl⟩ harness rfl plain goes
end Go.Proofs.YtoobchopgbgepaaGreatDoor.consoleRuns
