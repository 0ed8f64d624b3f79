/- Lemmas by which closed facts over a great program are reckoned in little memory. No condition. -/
import GoSem.ClaimFn
import Derived.LaidOnce
import Derived.KernelRfl
namespace Go.Lite
open Go
/-- the form's walk, over a table, with the seen ones as bits; none: the fuel was too little -/
def clos (adj : Nat → List Nat) : Nat → List Nat → Nat → List Nat → Option (List Nat)
  | 0, [], _, acc => some acc.reverse
  | 0, _ :: _, _, _ => none
  | _ + 1, [], _, acc => some acc.reverse
  | n + 1, f :: todo, seen, acc => match seen.testBit f with
    | true => clos adj n todo seen acc
    | false => clos adj n (adj f ++ todo) (seen ||| 1 <<< f) (f :: acc)
def Seen (seen : Nat) (acc : List Nat) : Prop := ∀ f, seen.testBit f = acc.contains f
theorem Seen.cons {seen : Nat} {acc : List Nat} (h : Seen seen acc) (f : Nat) : Seen (seen ||| 1 <<< f) (f :: acc) := by
  intro g
  rw [Nat.testBit_or, h g, Nat.one_shiftLeft, Nat.testBit_two_pow, List.contains_cons]
  by_cases e : f = g
  · subst e; simp
  · have : (g == f) = false := by simpa using fun h => e h.symm
    simp [e, this]
theorem clos_via {P : Program} {adj : Nat → List Nat} (hadj : ∀ f : Nat, (P.funcs[f]?).elim [] P.leadsTo = adj f) : ∀ (n : Nat) (todo : List Nat) (seen : Nat) (acc L : List Nat), Seen seen acc → clos adj n todo seen acc = some L → ∀ N, n ≤ N → P.closureVia N todo acc = L
  | 0, [], seen, acc, L, _, h, N, _ => by
    cases h
    cases N <;> rfl
  | 0, _ :: _, _, _, _, _, h, _, _ => by cases h
  | n + 1, [], seen, acc, L, _, h, N, _ => by
    cases h
    cases N <;> rfl
  | n + 1, f :: todo, seen, acc, L, hs, h, 0, hN => absurd hN (Nat.not_succ_le_zero n)
  | n + 1, f :: todo, seen, acc, L, hs, h, N + 1, hN => by
    unfold Program.closureVia
    unfold clos at h
    rw [← hs f]
    cases hb : seen.testBit f with
    | true =>
      rw [hb] at h
      simp only at h
      rw [if_pos rfl]
      exact clos_via hadj n todo seen acc L hs h N (Nat.le_of_succ_le_succ hN)
    | false =>
      rw [hb] at h
      simp only at h
      rw [if_neg Bool.false_ne_true, hadj f]
      exact clos_via hadj n _ _ _ L (hs.cons f) h N (Nat.le_of_succ_le_succ hN)
theorem sum_eq {P : Program} {adj : Nat → List Nat} (hadj : ∀ f : Nat, (P.funcs[f]?).elim [] P.leadsTo = adj f) : (P.funcs.toList.map fun g => (P.leadsTo g).length + 1).sum = ((List.range P.funcs.size).map fun f => (adj f).length + 1).sum := by
  congr 1
  apply List.ext_getElem
  · simp
  · intro i h1 h2
    simp only [List.getElem_map, List.getElem_range]
    have hi : i < P.funcs.size := by simpa using h1
    rw [← hadj i, Array.getElem?_eq_getElem hi]
    simp
/-- the form's own list -/
theorem closure_eq {P : Program} {adj : Nat → List Nat} (hadj : ∀ f : Nat, (P.funcs[f]?).elim [] P.leadsTo = adj f) {k : Nat} (hk : P.funcs.size = k) {n : Nat} (hn : Nat.ble n (1 + ((List.range k).map fun f => (adj f).length + 1).sum) = true) {f : FuncId} {L : List Nat} (h : clos adj n [f] 0 [] = some L) : P.closure f = L := by
  unfold Program.closure
  refine clos_via hadj n [f] 0 [] L (fun g => by simp) h _ ?_
  rw [sum_eq hadj, hk]
  exact Nat.le_of_ble_eq_true hn
/-- a table by rows -/
def rowsAdj (rows : List (List (List Nat))) (f : Nat) : List Nat := ((rows[f / 32]?).bind (·[f % 32]?)).getD []
theorem adj_of {P : Program} {adj : Nat → List Nat} {k : Nat} (hk : P.funcs.size = k) (h : ∀ f, f < k → (P.funcs[f]?).elim [] P.leadsTo = adj f) (h2 : ∀ f, k ≤ f → adj f = []) : ∀ f : Nat, (P.funcs[f]?).elim [] P.leadsTo = adj f := by
  intro f
  by_cases hf : f < k
  · exact h f hf
  · rw [h2 f (Nat.le_of_not_lt hf), Array.getElem?_eq_none (by omega)]
    rfl
end Go.Lite

namespace Go.Lite
open Go
section
variable {P : Program} {L : List (List UInt8)}
def onL (L : List (List UInt8)) (v tail : String) : Bool := (L.filterMap (bytesBehind v.toUTF8.data.toList)).any fun r => bytesBehind tail.toUTF8.data.toList r == some []
theorem on_eq (h : P.doorBytes = L) (v tail : String) : P.wordedOn v tail = onL L v tail := by
  unfold Program.wordedOn Program.tailsOn onL
  rw [h]
def baseL (L : List (List UInt8)) (v : String) : Option LaidKind :=
  match [LaidKind.data, .sentinel, .listed, .handle, .mapped, .funcs, .called, .wider, .zero].filter fun k => onL L v (kindTail k) with
  | [.listed] => if onL L v deepTailLater then some .listed else none
  | [k] => some k
  | _ => none
theorem base_eq (h : P.doorBytes = L) (v : String) : P.kindBase v = baseL L v := by
  unfold Program.kindBase baseL
  rw [show (fun k => P.wordedOn v (kindTail k)) = fun k => onL L v (kindTail k) from funext fun k => on_eq h v _, on_eq h v deepTailLater]
  rfl
def kindL (L : List (List UInt8)) (v : String) : Option LaidKind :=
  match baseL L v with
  | some .mapped => some (if onL L v deepMoreTail then .mappedDeep else .mapped)
  | some .funcs => some (if onL L v deepMoreTail then .funcsDeep else .funcs)
  | some .called => some (if onL L v deepMoreTail then .calledDeep else .called)
  | some .wider => some (if onL L v deepMoreTail then .widerDeep else .wider)
  | some .zero => some (if onL L v deepMoreTail then .zeroDeep else .zero)
  | k => k
theorem kind_eq (h : P.doorBytes = L) (v : String) : P.kindOfLater v = kindL L v := by
  unfold Program.kindOfLater kindL
  rw [base_eq h, on_eq h]
  rfl
end
end Go.Lite

namespace Go.Lite
open Go
section
variable (P : Program) (kb kl : String → Option LaidKind) (od : String → Bool) (cl : FuncId → List FuncId) (bu : List Nat → FuncId → Bool)
def mapless (ops : Array Oper) (own : Nat) : Bool :=
  ((ops.toList.flatMap (·.op.globalsBeside)).eraseDups.filter (· != own)).all fun v => (P.globals[v]?).any fun gl =>
    !P.mapsRec gl.type && (!P.ifacesRec gl.type || kb gl.name == some .sentinel)
def deepTold (v : Nat) : Bool := (P.globals[v]?).any fun gl =>
  match kl gl.name with
  | some .mappedDeep | some .funcsDeep | some .calledDeep | some .widerDeep | some .zeroDeep => true
  | _ => false
def deepBorne (v : Nat) : Bool := (P.globals[v]?).any fun gl => od gl.name
def regFit : Code → List Nat → Bool
  | .region _ ops _, st =>
    let written (v : Nat) : Bool := (P.globals[v]?).any fun gl => kb gl.name == some .mapped || kb gl.name == some .funcs
    (ops.toList.all fun o => !o.op.barredAtDoor) && (ops.isEmpty || !(storedIn ops).isEmpty || writesIn ops != 0) &&
    (((calledIn ops).all fun f => (cl f).all P.newOrTypeOf) ||
     (match storedIn ops with
      | [v] => ((P.globals[v]?).any fun gl => kb gl.name == some .called) && (calledIn ops).all fun f => bu (if deepTold P kl v then st else st.filter fun u => !deepBorne P od u) f || P.uniqueMake v f
      | _ => false)) &&
    (((ops.toList.flatMap (·.op.globalsBeside)).eraseDups.all fun u => !deepBorne P od u) || (storedIn ops ++ (if writesIn ops == 0 then [] else st.getLast?.toList)).all (deepTold P kl)) &&
    (writesIn ops == 0 || ((storedIn ops).isEmpty && st.getLast?.any fun v => (ops.toList.flatMap (·.op.globalsBeside)).contains v && written v && mapless P kb ops v)) &&
    ((ops.toList.flatMap (·.op.globalsBeside)).isEmpty || (storedIn ops).all fun v => !written v || mapless P kb ops v) &&
    ((storedIn ops).length ≤ 1 || (storedIn ops).all fun v => !written v)
  | .seq a b, st => regFit a st && regFit b ((a.laysInOrder st).getD st)
  | _, _ => true
theorem regFit_eq : ∀ (c : Code) (st : List Nat), regFit P P.kindBase P.kindOfLater (fun n => P.wordedOn n deepMoreTail) P.closure P.builder c st = c.regionsFit P st
  | .region _ ops _, st => rfl
  | .seq a b, st => by
    unfold regFit Code.regionsFit
    rw [regFit_eq a, regFit_eq b]
  | .skip, _ => rfl
  | .ret, _ => rfl
  | .cond .., _ => rfl
  | .block .., _ => rfl
  | .loop .., _ => rfl
  | .scope .., _ => rfl
  | .rangeFunc .., _ => rfl
  | .exit .., _ => rfl
  | .label .., _ => rfl
  | .goto .., _ => rfl
  | .refuse .., _ => rfl
def aloneL (code : Code) : Bool :=
  !code.unfollowedBeside P && (code.tempsApart 0).isSome && regFit P kb kl od cl bu code [] &&
  ((code.storedByHandle P).isEmpty || ((P.funcNamed "(internal/reflectlite.rtype).Elem").any fun h => (P.funcs[h]?).any fun fn => fn.body.isNone && !entryCalls fn)) &&
  ((code.storedByHandle P).all fun v => P.globalNamed "errors.errorType" == some v)
def namedL (laid : List (String × DataW Unit)) (code : Code) : Bool :=
  match code.laysInOrder [] with
  | some stored => stored.eraseDups.length == stored.length && aloneL P kb kl od cl bu code &&
      laid.all fun x => (P.globalNamed x.1).any fun v => (stored.contains v == (kb x.1 != some .zero)) && callsFit code v (kb x.1) &&
        ((code.storedByHandle P).contains v == (kb x.1 == some .handle)) && (x.2.handleName?.isSome == (kb x.1 == some .handle || kb x.1 == some .funcs)) &&
        (kb x.1 != some .handle || handlePair x) && (x.2.funcsIn?.isSome == (kb x.1 == some .funcs)) && mapsFit code v x.2 (kb x.1)
  | none => false
end
variable {P : Program} {L : List (List UInt8)} {cl : FuncId → List FuncId}
/-- some of the reached functions' lists told ahead -/
def clT (P : Program) : List (Nat × List Nat) → FuncId → List FuncId
  | [], f => P.closure f
  | p :: r, f => match Nat.beq f p.1 with
    | true => p.2
    | false => clT P r f
theorem clT_eq : ∀ {r : List (Nat × List Nat)}, (∀ p ∈ r, P.closure p.1 = p.2) → P.closure = clT P r
  | [], _ => rfl
  | p :: r, h => by
    funext f
    unfold clT
    cases hb : Nat.beq f p.1 with
    | true =>
      obtain rfl := Nat.eq_of_beq_eq_true hb
      exact h _ List.mem_cons_self
    | false => exact congrFun (clT_eq fun q hq => h q (List.mem_cons_of_mem _ hq)) f
def fitF (P : Program) (L : List (List UInt8)) (cl : FuncId → List FuncId) (laid : List (String × DataW Unit)) (F : Func) : Bool :=
  match F.body with
  | some code => namedL P (baseL L) (kindL L) (fun n => onL L n deepMoreTail) cl P.builder laid code
  | none => false
theorem named_of (h : P.doorBytes = L) (hcl : P.closure = cl) {laid : List (String × DataW Unit)} {g : FuncId} {F : Func} (hF : P.funcs[g]? = some F) (hn : fitF P L cl laid F = true) : varsNamedLaterB P g laid = true := by
  have e1 : P.kindBase = baseL L := funext (base_eq h)
  have e2 : P.kindOfLater = kindL L := funext (kind_eq h)
  have e3 : (fun n => P.wordedOn n deepMoreTail) = fun n => onL L n deepMoreTail := funext fun n => on_eq h n _
  unfold fitF at hn
  rw [← e1, ← e2, ← e3, ← hcl] at hn
  unfold varsNamedLaterB
  rw [hF, Option.bind_some]
  cases hb : F.body with
  | none => rw [hb] at hn; cases hn
  | some code =>
    rw [hb] at hn
    simp only at hn ⊢
    unfold namedL aloneL at hn
    simp only [regFit_eq] at hn
    exact hn
theorem kinds_of (h : P.doorBytes = L) {laid : List (String × DataW Unit)} {kinds : List LaidKind} (hk : (laid.map fun x => kindL L x.1) = kinds.map some) : laid.map (fun x => P.kindOfLater x.1) = kinds.map some := by
  rw [← hk]
  congr 1
  funext x
  exact kind_eq h x.1
/-- a short walk: no sum is wanted -/
theorem closure_short {adj : Nat → List Nat} (hadj : ∀ f : Nat, (P.funcs[f]?).elim [] P.leadsTo = adj f) {n : Nat} (hn : n ≤ P.funcs.size) {f : FuncId} {l : List Nat} (h : clos adj n [f] 0 [] = some l) : P.closure f = l := by
  unfold Program.closure
  refine clos_via hadj n [f] 0 [] l (fun g => by simp) h _ ?_
  have : ∀ q : List Func, q.length ≤ (q.map fun g => (P.leadsTo g).length + 1).sum := by
    intro q
    induction q with
    | nil => simp
    | cons a q ih => simp only [List.length_cons, List.map_cons, List.sum_cons]; omega
  have := this P.funcs.toList
  rw [Array.length_toList] at this
  omega
end Go.Lite
