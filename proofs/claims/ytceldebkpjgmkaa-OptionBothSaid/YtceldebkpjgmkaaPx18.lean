-- Written by a program of this session (hprint.py), out of the translation; functions that the print does not take are given by hand.
import Derived.Test.YtceldebkpjgmkaaPx0
import Derived.Test.YtceldebkpjgmkaaPx3
namespace Go.Proofs.Ytceldebkpjgmkaa.P
open Go.RowKit Go.Proofs.YtceldebkpjgmkaaM Go.Proofs.YtceldebkpjgmkaaW.PrintWords Go.Proofs.YtceldebkpjgmkaaW.PrintLast Go.Proofs.YtceldebkpjgmkaaW.PrintMore
attribute [local go_sem] max2_int min2_int max_two min_two max_three min_three max_four min_four   -- for this text's walks alone
set_option linter.unusedVariables false
set_option linter.unusedSimpArgs false

/-! ### option_Sort: function 17 -/
-- behind option_Less.calls; the laying of slices.SortFunc (option_Sort.ren, option_Sort.sortF) was written by lay-plain.mjs
instance option_Sort.deq : DecidableEq (S23) := fun x y => decidable_of_iff (x.f0 = y.f0 ∧ x.f1 = y.f1 ∧ x.f2 = y.f2) (by cases x; cases y; simp)
def option_Sort.wf (x : S23) : Bool := (Lit.int .i64 x.f0).wf && ((Lit.int .i64 x.f1).wf && (Lit.int .i64 x.f2).wf)
def option_Sort.key (x : S23) : Value := .agg #[.int .i64 x.f0, .int .i64 x.f1, .int .i64 x.f2]
def option_Sort.kl (x : S23) : Lit := .string (keyBytes [.int .i64 x.f0, .int .i64 x.f1, .int .i64 x.f2])
theorem option_Sort.laid : laidOutB Try.prog = true := by kernel_rfl
theorem option_Sort.row : (48 : TypeId) < Try.prog.types.size := of_decide_eq_true (by kernel_rfl)
theorem option_Sort.law : Maps.Keyed Try.prog 48 := Maps.Keyed.of_law (deep_law_laid option_Sort.laid (m := 2) (by omega) option_Sort.row (by kernel_rfl) (by rw [Try.underlying48]))
theorem option_Sort.cellsK : Try.prog.cellsOf 48 = 3 := by kernel_rfl
theorem option_Sort.cells1 : Try.prog.cellsOf 3 = 1 := by kernel_rfl
theorem option_Sort.keyT : Try.prog.keyType 48 = true := by kernel_rfl
theorem option_Sort.lit1 (m : Nat) (v : Value) (l : List Lit) : Try.prog.keyLits (m + 1) 3 [v] = some l ↔ ∃ a, v = .int .i64 a ∧ (Lit.int .i64 a).wf = true ∧ l = [.int .i64 a] := by
  unfold Program.keyLits
  rw [Try.underlying3]
  cases v
  case int q n =>
    show (if q = .i64 ∧ (Lit.int .i64 n).wf = true then some [Lit.int .i64 n] else none) = some l ↔ _
    constructor
    · intro h
      split at h
      · rename_i c
        obtain ⟨rfl, c⟩ := c
        cases h
        exact ⟨_, rfl, c, rfl⟩
      · cases h
    · rintro ⟨a, e, hw, rfl⟩
      cases e
      rw [if_pos ⟨rfl, hw⟩]
  all_goals exact ⟨fun h => (by cases h), fun ⟨_, e, _⟩ => (by cases e)⟩
theorem option_Sort.lits (m : Nat) (c0 c1 c2 : Value) : Try.prog.keyLits (m + 2) 48 [c0, c1, c2] = ((Try.prog.keyLits (m + 1) 3 [c0]).bind fun x => (Try.prog.keyLits (m + 1) 3 [c1]).bind fun y => (Try.prog.keyLits (m + 1) 3 [c2]).bind fun z => some (x ++ (y ++ z))) := by
  conv => lhs; unfold Program.keyLits
  rw [Try.underlying48]
  simp only [option_Sort.cellsK, option_Sort.cells1]
  rw [if_pos (show [c0, c1, c2].length = 3 from rfl)]
  simp only [show List.range 3 = [0, 1, 2] from rfl, List.mapM_cons, List.mapM_nil, Option.bind_eq_bind, Option.pure_def]
  simp only [Nat.zero_mul, Nat.one_mul, List.drop_zero, List.take_succ_cons, List.take_zero, List.drop_succ_cons, Nat.reduceMul]
  cases Try.prog.keyLits (m + 1) 3 [c0] <;> cases Try.prog.keyLits (m + 1) 3 [c1] <;> cases Try.prog.keyLits (m + 1) 3 [c2] <;> simp
theorem option_Sort.size2 : ∃ m, Try.prog.types.size + 1 = m + 2 := ⟨Try.prog.types.size - 1, by have h : 0 < Try.prog.types.size := Nat.lt_of_le_of_lt (Nat.zero_le _) option_Sort.row; generalize Try.prog.types.size = n at h ⊢; omega⟩
theorem option_Sort.wf_iff (x : S23) : option_Sort.wf x = true ↔ (Lit.int .i64 x.f0).wf = true ∧ (Lit.int .i64 x.f1).wf = true ∧ (Lit.int .i64 x.f2).wf = true := by simp [option_Sort.wf]
theorem option_Sort.formed (c0 c1 c2 : Value) : (Value.agg #[c0, c1, c2]).formed Try.prog 48 = true := by simp [Value.formed, Try.underlying48, option_Sort.cellsK]
theorem option_Sort.keyOf_eq (v : Value) : keyOf Try.prog 48 v = if (Try.prog.keyType 48 && v.formed Try.prog 48) = true then (Try.prog.keyLits (Try.prog.types.size + 1) 48 v.cells.toList).map (fun ls => Lit.string (keyBytes ls)) else none := by
  unfold keyOf
  rw [Try.underlying48]
theorem option_Sort.keyOf_mk {x : S23} (h : option_Sort.wf x = true) : keyOf Try.prog 48 (option_Sort.key x) = some (option_Sort.kl x) := by
  obtain ⟨m, hm⟩ := option_Sort.size2
  obtain ⟨h0, h1, h2⟩ := (option_Sort.wf_iff x).1 h
  unfold keyOf
  rw [Try.underlying48]
  show (if (Try.prog.keyType 48 && (option_Sort.key x).formed Try.prog 48) = true then _ else _) = _
  rw [option_Sort.keyT, show (option_Sort.key x).formed Try.prog 48 = true from option_Sort.formed _ _ _, Bool.and_self, if_pos rfl, hm]
  show Option.map _ (Try.prog.keyLits (m + 2) 48 [.int .i64 x.f0, .int .i64 x.f1, .int .i64 x.f2]) = _
  rw [option_Sort.lits, (option_Sort.lit1 _ _ _).2 ⟨_, rfl, h0, rfl⟩, (option_Sort.lit1 _ _ _).2 ⟨_, rfl, h1, rfl⟩, (option_Sort.lit1 _ _ _).2 ⟨_, rfl, h2, rfl⟩]
  rfl
theorem option_Sort.keyOf_inv {v : Value} {l : Lit} (h : keyOf Try.prog 48 v = some l) : ∃ x, option_Sort.wf x = true ∧ v = option_Sort.key x ∧ l = option_Sort.kl x := by
  obtain ⟨m, hm⟩ := option_Sort.size2
  have h' := h
  replace h := (option_Sort.keyOf_eq v).symm.trans h
  rw [option_Sort.keyT, Bool.true_and] at h
  by_cases c : v.formed Try.prog 48 = true
  · rw [if_pos c] at h
    have hv : ∃ c0 c1 c2, v = .agg #[c0, c1, c2] := by
      clear h h'
      cases v <;> simp [Value.formed, Try.underlying48, option_Sort.cellsK] at c
      rename_i cs
      obtain ⟨cl⟩ := cs
      match cl, c with
      | [c0, c1, c2], _ => exact ⟨_, _, _, rfl⟩
    obtain ⟨c0, c1, c2, rfl⟩ := hv
    rw [hm] at h
    replace h : Option.map (fun ls => Lit.string (keyBytes ls)) (Try.prog.keyLits (m + 2) 48 [c0, c1, c2]) = some l := h
    rw [option_Sort.lits] at h
    obtain ⟨ls, h1, h2⟩ := Option.map_eq_some_iff.1 h
    obtain ⟨x0, e0, h1⟩ := Option.bind_eq_some_iff.1 h1
    obtain ⟨x1, e1, h1⟩ := Option.bind_eq_some_iff.1 h1
    obtain ⟨x2, e2, h1⟩ := Option.bind_eq_some_iff.1 h1
    obtain ⟨a0, rfl, w0, rfl⟩ := (option_Sort.lit1 _ _ _).1 e0
    obtain ⟨a1, rfl, w1, rfl⟩ := (option_Sort.lit1 _ _ _).1 e1
    obtain ⟨a2, rfl, w2, rfl⟩ := (option_Sort.lit1 _ _ _).1 e2
    cases h1
    exact ⟨⟨a0, a1, a2⟩, (option_Sort.wf_iff _).2 ⟨w0, w1, w2⟩, rfl, h2.symm⟩
  · rw [if_neg c] at h
    cases h
theorem option_Sort.key_inj {x y : S23} (h : option_Sort.key x = option_Sort.key y) : x = y := by
  cases x; cases y
  simp only [option_Sort.key, Value.agg.injEq] at h
  simp at h
  obtain ⟨rfl, rfl, rfl⟩ := h
  rfl
theorem option_Sort.kl_inj {x y : S23} (hx : option_Sort.wf x = true) (hy : option_Sort.wf y = true) (h : option_Sort.kl x = option_Sort.kl y) : x = y :=
  option_Sort.key_inj (option_Sort.law.inj (option_Sort.keyOf_mk hx) ((option_Sort.keyOf_mk hy).trans (by rw [h])))
theorem option_Sort.kl_key (x : S23) : WideAt.IsKeyLit (option_Sort.kl x) := trivial
/-- The map in block b tells of each how often it is in L. -/
def option_Sort.rep (D : DataW Unit) (L : List (S23)) : Prop := Maps.IsMap D ∧ (∀ x, option_Sort.wf x = true → D.atKey (option_Sort.kl x) (.lit (.int .i64 0)) = .lit (.int .i64 (L.count x : Int))) ∧ ∀ x, option_Sort.wf x = true → Maps.has D (option_Sort.kl x) = decide (x ∈ L)
def option_Sort.own (w : World) (b n : Nat) (L : List (S23)) : Prop := ∃ D : DataW Unit, w.ownsMap Try.prog 48 (plainElem Try.prog 3) b n D ∧ option_Sort.rep D L
theorem option_Sort.rep_nil : option_Sort.rep (.map []) [] := ⟨⟨[], rfl⟩, fun _ _ => rfl, fun _ _ => by simp [Maps.has]⟩
theorem option_Sort.rep_put {D : DataW Unit} {L : List (S23)} (h : option_Sort.rep D L) {x : S23} (hx : option_Sort.wf x = true) : option_Sort.rep (D.put (option_Sort.kl x) (.lit (.int .i64 ((L.count x + 1 : Nat) : Int)))) (L ++ [x]) := by
  obtain ⟨h1, h2, h3⟩ := h
  refine ⟨h1.put _ _, fun y hy => ?_, fun y hy => ?_⟩
  · by_cases c : y = x
    · subst c
      rw [Maps.atKey_put_same h1 (option_Sort.kl_key _)]
      simp
    · rw [Maps.atKey_put_other (fun e => c (option_Sort.kl_inj hy hx e)), h2 y hy, List.count_append, List.count_singleton, if_neg (by simpa using fun e => c e.symm), Nat.add_zero]
  · by_cases c : y = x
    · subst c
      rw [Maps.has_put_same h1 (option_Sort.kl_key _)]
      simp
    · rw [Maps.has_put_other (fun e => c (option_Sort.kl_inj hy hx e)), h3 y hy]
      simp [c]
theorem option_Sort.own_new (w : World) : option_Sort.own (w.alloc (.map #[] 0)) w.heap.size 0 [] := ⟨_, World.ownsMap_made _ _ _ _, option_Sort.rep_nil⟩
theorem option_Sort.own_below {w w' : World} {b n : Nat} {L : List (S23)} (h : option_Sort.own w b n L) (hb : Below w.heap.size w w') : option_Sort.own w' b n L := by
  obtain ⟨D, ⟨es, clock, h0, r⟩, hr⟩ := h
  exact ⟨D, ⟨es, clock, (hb.block b (Array.getElem?_eq_some_iff.1 h0).1).trans h0, r⟩, hr⟩
theorem option_Sort.look {w : World} {ops : Array Oper} {rest : List Oper} {o : Oper} {a : Act} {Q : Exit → Act → World → Prop} (hg : o.guard = none) (m x : Operand) (hop : o.op = Op.lookup 61 m x false)
    (b n : Nat) (L : List (S23)) (hown : option_Sort.own w b n L) (hm : a.eval m = .map (some b)) (q : S23) (hq : option_Sort.wf q = true) (hx : a.eval x = option_Sort.key q)
    (hK : wpList Try.prog ops Q rest (a.put o.dst (.int .i64 (L.count q : Int))) w) : wpList Try.prog ops Q (o :: rest) a w := by
  obtain ⟨D, ho, hr⟩ := hown
  refine wpList_lookup_own_int w hg m x 61 hop 48 3 .i64 option_Sort.law Try.underlying61 Try.underlying3 (by kernel_rfl) b n D hm ho _ _ hx (option_Sort.keyOf_mk hq) ?_
  intro c hat hwc
  rw [hr.2.1 q hq] at hat
  cases hat
  exact hK
theorem option_Sort.keyLaw : WideMaps.KeyLaw Try.prog 48 := deep_law_laid option_Sort.laid (m := 2) (by omega) option_Sort.row (by kernel_rfl) (by rw [Try.underlying48])
theorem option_Sort.own_heap {w w' : World} {b n : Nat} {D : DataW Unit} (h : w.ownsMap Try.prog 48 (plainElem Try.prog 3) b n D) (e : w'.heap[b]? = w.heap[b]?) : w'.ownsMap Try.prog 48 (plainElem Try.prog 3) b n D := by
  obtain ⟨es, clock, h0, r⟩ := h
  exact ⟨es, clock, e.trans h0, r⟩
/-- The two steps of 'many[x]++': the entry, then the store into it. -/
theorem option_Sort.entry {w : World} {b n : Nat} {L : List (S23)} (hown : option_Sort.own w b n L) (hn : n < maxLen) (hl : L.length < 9223372036854775807) {q : S23} (hq : option_Sort.wf q = true) :
    ∃ (c st : Int) (w1 : World), (Instr.mapEntry 61 (.map (some b)) (option_Sort.key q)).run Try.prog w = .ok (.tuple #[.int .i64 c, .int .i64 st]) w1 ∧ w.grownBy w1 (some b) ∧
      (Instr.lookup 61 (.map (some b)) (option_Sort.key q) false).run Try.prog w1 = .ok (.int .i64 (L.count q : Int)) w1 ∧
      ∀ (w2 : World), w2.heap[b]? = w1.heap[b]? → ∃ w3, (Instr.entryStore 61 (.map (some b)) (.int .i64 st) (.int .i64 ((L.count q + 1 : Nat) : Int))).run Try.prog w2 = .ok () w3 ∧ option_Sort.own w3 b (n + 1) (L ++ [q]) ∧ w2.grownBy w3 (some b) := by
  obtain ⟨D, ho, hr⟩ := hown
  have hz : ∀ u : World, (zeroValue 3).run Try.prog u = .ok (.int .i64 0) u := fun u => by kernel_rfl
  have hkey := option_Sort.keyOf_mk hq
  have ho0 := ho
  obtain ⟨es, clock, hb, F, hs, hD⟩ := ho
  obtain ⟨v0, st, es1, clock1, h1, h2, h3⟩ := WideElems.entry_then_store option_Sort.keyLaw Try.underlying61 hz hb F hkey
  -- the value that stands there
  obtain ⟨c, hlk, hat, hwc⟩ := ho0.lookup_int option_Sort.law Try.underlying61 Try.underlying3 (hz w) hkey
  have hc : c = (L.count q : Int) := by
    rw [hr.2.1 q hq] at hat
    cases hat
    rfl
  subst hc
  -- the entry is as a store of the very value
  have hsame : v0 = .int .i64 (L.count q : Int) ∧ ∃ u1, (Instr.mapUpdate 61 (.map (some b)) (option_Sort.key q) v0).run Try.prog w = .ok () u1 ∧ u1 = ChangeMaps.setBlock w b (.map es1 clock1) := by
    rcases option_Sort.law.find w hkey es.toList F.keys with ⟨f1, f2⟩ | ⟨j, e0, f1, f2, f3⟩
    · have a1 : (Instr.lookup 61 (.map (some b)) (option_Sort.key q) false).run Try.prog w = .ok (.int .i64 0) w := by
        simp [Instr.lookup, run_underlying Try.underlying61, MapKept.run_getObj_map hb, option_Sort.law.check w _ hkey, f1, hz, Result.andThen]
      have a2 : (Instr.mapEntry 61 (.map (some b)) (option_Sort.key q)).run Try.prog w = .ok (.tuple #[.int .i64 0, goInt clock]) (ChangeMaps.setBlock w b (.map (es.push ⟨option_Sort.key q, .int .i64 0, clock⟩) (clock + 1))) := by
        simp [Instr.mapEntry, run_underlying Try.underlying61, MapKept.run_getObj_map hb, option_Sort.law.check w false hkey, f1, hz, MapKept.run_setObj_map _ hb, Result.andThen, ChangeMaps.setBlock]
      rw [a1] at hlk
      rw [a2] at h1
      injection hlk with e1 _
      injection h1 with e2 e3
      simp only [Value.tuple.injEq] at e2
      have e4 := congrArg (fun a : Array Value => a[0]?) e2
      simp at e4
      refine ⟨by rw [← e4, e1], _, ?_, e3⟩
      rw [← e4]
      simp [Instr.mapUpdate, run_underlying Try.underlying61, MapKept.run_getObj_map hb, option_Sort.law.check w false hkey, f1, MapKept.run_setObj_map _ hb, Result.andThen, ChangeMaps.setBlock]
    · have hj : es[j]? = some e0 := by simpa using f2
      have hid : es.modify j (fun e => { e with key := option_Sort.key q }) = es := by
        apply Array.ext'
        rw [Array.toList_modify, ChangeMaps.modify_eq_set _ _ _ _ f2, show ({ e0 with key := option_Sort.key q } : MapEntry) = e0 by rw [← f3]]
        exact WideElems.set_self _ _ _ f2
      have hid2 : es.modify j (fun e => { e with key := option_Sort.key q, val := e0.val }) = es := by
        apply Array.ext'
        rw [Array.toList_modify, ChangeMaps.modify_eq_set _ _ _ _ f2, show ({ e0 with key := option_Sort.key q, val := e0.val } : MapEntry) = e0 by rw [← f3]]
        exact WideElems.set_self _ _ _ f2
      have a1 : (Instr.lookup 61 (.map (some b)) (option_Sort.key q) false).run Try.prog w = .ok e0.val w := by
        simp [Instr.lookup, run_underlying Try.underlying61, MapKept.run_getObj_map hb, option_Sort.law.check w _ hkey, f1, Result.andThen]
      have a2 : (Instr.mapEntry 61 (.map (some b)) (option_Sort.key q)).run Try.prog w = .ok (.tuple #[e0.val, goInt e0.born]) (ChangeMaps.setBlock w b (.map es clock)) := by
        simp [Instr.mapEntry, run_underlying Try.underlying61, MapKept.run_getObj_map hb, option_Sort.law.check w false hkey, f1, hj, f3, option_Sort.law.stays w hkey, hid, MapKept.run_setObj_map _ hb, Result.andThen, ChangeMaps.setBlock]
      rw [a1] at hlk
      rw [a2] at h1
      injection hlk with e1 _
      injection h1 with e2 e3
      simp only [Value.tuple.injEq] at e2
      have e4 := congrArg (fun a : Array Value => a[0]?) e2
      simp at e4
      refine ⟨by rw [← e4, e1], _, ?_, e3⟩
      rw [← e4]
      simp [Instr.mapUpdate, run_underlying Try.underlying61, MapKept.run_getObj_map hb, option_Sort.law.check w false hkey, f1, hj, f3, option_Sort.law.stays w hkey, hid2, MapKept.run_setObj_map _ hb, Result.andThen, ChangeMaps.setBlock]
  obtain ⟨rfl, u1, hu, rfl⟩ := hsame
  obtain ⟨u2, hu2, hown1, hgr⟩ := ho0.update option_Sort.law Try.underlying61 hn hkey (plainElem_int Try.underlying3 hwc)
  rw [hu] at hu2
  injection hu2 with _ hu2
  subst hu2
  obtain ⟨c', hlk', hat', _⟩ := hown1.lookup_int option_Sort.law Try.underlying61 Try.underlying3 (hz _) hkey
  rw [Maps.atKey_put_same hr.1 (option_Sort.kl_key _)] at hat'
  cases hat'
  have hb1 : (ChangeMaps.setBlock w b (.map es1 clock1)).heap[b]? = some (.map es1 clock1) := ChangeMaps.heap_setBlock_same hb _
  refine ⟨_, st, _, h1, hgr, hlk', fun w2 hw2 => ?_⟩
  rw [hb1] at hw2
  have hwv : (Lit.int .i64 ((L.count q + 1 : Nat) : Int)).wf = true := by
    have hc := List.count_le_length (a := q) (l := L)
    simp only [Lit.wf, Bool.and_eq_true, decide_eq_true_eq]
    exact ⟨by show (-9223372036854775808 : Int) ≤ _; omega, by show _ ≤ (9223372036854775807 : Int); omega⟩
  obtain ⟨es', clock', g1, g2⟩ := h3 w2 (.int .i64 ((L.count q + 1 : Nat) : Int)) hw2
  obtain ⟨u3, hu3, hown3, _⟩ := ho0.update option_Sort.law Try.underlying61 hn hkey (plainElem_int Try.underlying3 hwv)
  rw [g2] at hu3
  injection hu3 with _ hu3
  subst hu3
  refine ⟨_, g1, ⟨_, option_Sort.own_heap hown3 ?_, option_Sort.rep_put hr hq⟩, ⟨rfl, rfl, rfl, by simp [ChangeMaps.setBlock], fun i _ hi => ChangeMaps.heap_setBlock_other hw2 _ (fun e => hi (by rw [e]))⟩⟩
  rw [ChangeMaps.heap_setBlock_same hw2, ChangeMaps.heap_setBlock_same hb]
def option_Sort.cf (x y : S23) : Int := option_Less.sg x.f0 x.f1 x.f2 y.f0 y.f1 y.f2
def option_Sort.enc (x : S23) : List Value := [.int .i64 x.f0, .int .i64 x.f1, .int .i64 x.f2]
instance option_Sort.inh : Inhabited (S23) := ⟨z23⟩
set_option maxHeartbeats 4000000 in
set_option maxRecDepth 100000 in
theorem option_Sort.closure (x y : S23) (W : World) : Calls Try.prog 33 #[.agg #[.int .i64 x.f0, .int .i64 x.f1, .int .i64 x.f2], .agg #[.int .i64 y.f0, .int .i64 y.f1, .int .i64 y.f2]] W fun e w' => e = .returned (.int .i64 (option_Sort.cf x y)) ∧ ∃ q os', w' = Sort.grow (W.drewN q) os' := by
  have hu := Try.underlying48
  have HC := Aside0.mk (option_Less.cmp [x.f0, x.f1, x.f2] [y.f0, y.f1, y.f2] x.f0 x.f1 x.f2 y.f0 y.f1 y.f2 rfl rfl)
  obtain ⟨a0, ha0⟩ : ∃ a, x.f0 = a := ⟨_, rfl⟩
  obtain ⟨a1, ha1⟩ : ∃ a, x.f1 = a := ⟨_, rfl⟩
  obtain ⟨a2, ha2⟩ : ∃ a, x.f2 = a := ⟨_, rfl⟩
  obtain ⟨b0, hb0⟩ : ∃ a, y.f0 = a := ⟨_, rfl⟩
  obtain ⟨b1, hb1⟩ : ∃ a, y.f1 = a := ⟨_, rfl⟩
  obtain ⟨b2, hb2⟩ : ∃ a, y.f2 = a := ⟨_, rfl⟩
  unfold option_Sort.cf
  rw [ha0, ha1, ha2, hb0, hb1, hb2] at HC ⊢
  generalize option_Less.sg a0 a1 a2 b0 b1 b2 = sg at HC ⊢
  clear ha0 ha1 ha2 hb0 hb1 hb2
  have E := Aside0.mk (show ∀ n, ((W.alloc (.cells #[.int .i64 a0, .int .i64 a1, .int .i64 a2] 48 (0, 0))).alloc (.cells #[.int .i64 b0, .int .i64 b1, .int .i64 b2] 48 (0, 0))).drewN n = Sort.grow (W.drewN n) #[.cells #[.int .i64 a0, .int .i64 a1, .int .i64 a2] 48 (0, 0), .cells #[.int .i64 b0, .int .i64 b1, .int .i64 b2] 48 (0, 0)] from fun n => by
    rw [Go.Sort.alloc_eq_grow, Go.Sort.alloc_eq_grow, Go.Sort.grow_grow]; rfl)
  have hx := blk_alloc (blk_new W (.cells #[.int .i64 a0, .int .i64 a1, .int .i64 a2] 48 (0, 0))) (.cells #[.int .i64 b0, .int .i64 b1, .int .i64 b2] 48 (0, 0))
  have hy := two_new W (.cells #[.int .i64 a0, .int .i64 a1, .int .i64 a2] 48 (0, 0)) (.cells #[.int .i64 b0, .int .i64 b1, .int .i64 b2] 48 (0, 0))
  have cx := Aside0.mk (block_reads (k := .i64) (xs := [a0, a1, a2]) hx (by simp))
  have cy := Aside0.mk (block_reads (k := .i64) (xs := [b0, b1, b2]) hy (by simp))
  clear hx hy
  go_enter Try.func33, Try.ntmps33
  go_wp2
  generalize (W.alloc (.cells #[.int .i64 a0, .int .i64 a1, .int .i64 a2] 48 (0, 0))).alloc (.cells #[.int .i64 b0, .int .i64 b1, .int .i64 b2] 48 (0, 0)) = W2 at *
  go_quiet ((go_at_call 23; exact quiet_drawn (slices_Compare_int_int.calls 5 _ 3 [a0, a1, a2] _ 3 [b0, b1, b2] sg _ (Kd.C_drewN cx.out _) (by simp) (Kd.C_drewN cy.out _) (by simp) HC.out)))
  go_wp2
  go_ret
  exact ⟨rfl, _, _, E.out _⟩
theorem option_Sort.lays (blk off size : Nat) (w : World) : CmpLays Try.prog 33 #[] option_Sort.enc 3 option_Sort.cf blk off size w :=
  fun _ _ _ _ x y => option_Sort.closure x y _
theorem option_Sort.ltOf_eq (x y : S23) : ltOf option_Sort.cf x y = option_Less.lt x.f0 x.f1 x.f2 y.f0 y.f1 y.f2 := option_Less.sg_lt _ _ _ _ _ _
theorem option_Sort.swo : Sort.SWO (ltOf option_Sort.cf) :=
  ⟨fun x => by rw [option_Sort.ltOf_eq]; unfold option_Less.lt; simp,
   fun x y z h1 h2 => by rw [option_Sort.ltOf_eq] at *; unfold option_Less.lt at *; simp only [decide_eq_true_eq] at *; omega,
   fun x y z h1 h2 => by rw [option_Sort.ltOf_eq] at *; unfold option_Less.lt at *; simp only [decide_eq_false_iff_not] at *; omega⟩
theorem option_Sort.total (x y : S23) (h1 : ltOf option_Sort.cf x y = false) (h2 : ltOf option_Sort.cf y x = false) : x = y := by
  rw [option_Sort.ltOf_eq] at h1 h2
  unfold option_Less.lt at h1 h2
  simp only [decide_eq_false_iff_not] at h1 h2
  cases x; cases y
  simp only [S23.mk.injEq]
  simp only at h1 h2
  omega
def option_Sort.ren : Go.Shelf.Ren := ⟨fun | 6 => 32 | 15 => 44 | 14 => 43 | 28 => 66 | 29 => 67 | 20 => 58 | 21 => 59 | 22 => 60 | 23 => 61 | 24 => 62 | 25 => 63 | 26 => 64 | 27 => 65 | 46 => 71 | 47 => 72 | 48 => 73 | 49 => 74 | 50 => 75 | 57 => 77 | n => n, fun | 22 => 62 | 24 => 48 | 25 => 64 | 3 => 3 | 39 => 59 | 0 => 0 | 53 => 96 | 55 => 31 | 4 => 4 | 46 => 90 | 45 => 89 | 50 => 86 | 5 => 5 | 9 => 9 | 66 => 101 | 70 => 72 | 76 => 106 | 77 => 107 | n => n, fun | n => n⟩
theorem option_Sort.sortF : Go.Proofs.SlLaysF0.n6 Try.prog option_Sort.ren := {
  mixed := by kernel_rfl
  f6 := ⟨Try.f32.name, by decide, Try.func32.trans (congrArg some (by kernel_rfl))⟩
  f14 := ⟨Try.f43.name, by decide, Try.func43.trans (congrArg some (by kernel_rfl))⟩
  f15 := Try.func44.trans (congrArg some (by kernel_rfl))
  f20 := ⟨Try.f58.name, by decide, Try.func58.trans (congrArg some (by kernel_rfl))⟩
  f21 := ⟨Try.f59.name, by decide, Try.func59.trans (congrArg some (by kernel_rfl))⟩
  f22 := ⟨Try.f60.name, by decide, Try.func60.trans (congrArg some (by kernel_rfl))⟩
  f23 := ⟨Try.f61.name, by decide, Try.func61.trans (congrArg some (by kernel_rfl))⟩
  f24 := ⟨Try.f62.name, by decide, Try.func62.trans (congrArg some (by kernel_rfl))⟩
  f25 := ⟨Try.f63.name, by decide, Try.func63.trans (congrArg some (by kernel_rfl))⟩
  f26 := ⟨Try.f64.name, by decide, Try.func64.trans (congrArg some (by kernel_rfl))⟩
  f27 := ⟨Try.f65.name, by decide, Try.func65.trans (congrArg some (by kernel_rfl))⟩
  f28 := Try.func66.trans (congrArg some (by kernel_rfl))
  f29 := Try.func67.trans (congrArg some (by kernel_rfl))
  f46 := ⟨Try.f71.name, by decide, Try.func71.trans (congrArg some (by kernel_rfl))⟩
  f47 := Try.func72.trans (congrArg some (by kernel_rfl))
  f48 := Try.func73.trans (congrArg some (by kernel_rfl))
  f49 := ⟨Try.f74.name, by decide, Try.func74.trans (congrArg some (by kernel_rfl))⟩
  f50 := ⟨Try.f75.name, by decide, Try.func75.trans (congrArg some (by kernel_rfl))⟩
  f57 := ⟨Try.f77.name, by decide, Try.func77.trans (congrArg some (by kernel_rfl))⟩
  t0 := Try.underlying0
  a0 := Try.isAgg0
  z0 := Try.sizeOf0
  v0 := Try.zeroValue0
  t3 := Try.underlying3
  a3 := Try.isAgg3
  z3 := Try.sizeOf3
  v3 := Try.zeroValue3
  t4 := Try.underlying4
  a4 := Try.isAgg4
  z4 := Try.sizeOf4
  v4 := Try.zeroValue4
  t5 := Try.underlying5
  a5 := Try.isAgg5
  z5 := Try.sizeOf5
  v5 := Try.zeroValue5
  t9 := Try.underlying9
  a9 := Try.isAgg9
  z9 := Try.sizeOf9
  v9 := Try.zeroValue9
  t22 := Try.underlying62
  a22 := Try.isAgg62
  z22 := Try.sizeOf62
  v22 := Try.zeroValue62
  t25 := Try.underlying64
  a25 := Try.isAgg64
  z25 := Try.sizeOf64
  v25 := Try.zeroValue64
  t39 := Try.underlying59
  a39 := Try.isAgg59
  z39 := Try.sizeOf59
  v39 := Try.zeroValue59
  t45 := Try.underlying89
  a45 := Try.isAgg89
  z45 := Try.sizeOf89
  v45 := Try.zeroValue89
  t46 := Try.underlying90
  a46 := Try.isAgg90
  z46 := Try.sizeOf90
  v46 := Try.zeroValue90
  t50 := Try.underlying86
  a50 := Try.isAgg86
  z50 := Try.sizeOf86
  v50 := Try.zeroValue86
  t53 := Try.underlying96
  a53 := Try.isAgg96
  z53 := Try.sizeOf96
  v53 := Try.zeroValue96
  t55 := Try.underlying31
  a55 := Try.isAgg31
  z55 := Try.sizeOf31
  v55 := Try.zeroValue31
  t66 := Try.underlying101
  a66 := Try.isAgg101
  z66 := Try.sizeOf101
  v66 := Try.zeroValue101
  t70 := Try.underlying72
  a70 := Try.isAgg72
  z70 := Try.sizeOf72
  v70 := Try.zeroValue72
  t76 := Try.underlying106
  a76 := Try.isAgg106
  z76 := Try.sizeOf106
  v76 := Try.zeroValue106
  t77 := Try.underlying107
  a77 := Try.isAgg107
  z77 := Try.sizeOf107
  v77 := Try.zeroValue107 }
def option_Sort.srt (l : List (S23)) : List (S23) := l.mergeSort fun x y => !(ltOf option_Sort.cf) y x
theorem option_Sort.far_sort (w : World) (g n : Nat) (d' : Array (S23)) (os : Array Obj) : w.grownBy (sortWorldK option_Sort.enc 3 w g 0 n d' os) (some g) := by
  unfold sortWorldK
  refine ⟨rfl, rfl, rfl, by rw [Sort.size_grow]; simp [Sort.putRowK, Sort.putRow, Sort.mapBlock, Sort.ahead], fun k hk hne => ?_⟩
  rw [Sort.heap_grow_old _ _ (by simpa [Sort.putRowK, Sort.putRow, Sort.mapBlock, Sort.ahead] using hk)]
  show ((w.heap.modify g _)[k]?) = _
  rw [Array.getElem?_modify, if_neg (fun e => hne (by rw [e]))]
theorem option_Sort.row_sort {w : World} {g n : Nat} {cur : Array Value} {e : TypeId} {fr : Nat × Nat} {d' : Array (S23)} {os : Array Obj} (h : w.heap[g]? = some (.cells cur e fr)) : (sortWorldK option_Sort.enc 3 w g 0 n d' os).heap[g]? = some (.cells (Sort.putCells id 0 (Sort.flatK option_Sort.enc 3 d') cur) e fr) := by
  unfold sortWorldK
  have hlt : g < w.heap.size := (Array.getElem?_eq_some_iff.1 h).1
  rw [Sort.heap_grow_old _ _ (by simpa [Sort.putRowK, Sort.putRow, Sort.mapBlock, Sort.ahead] using hlt)]
  show ((w.heap.modify g _)[g]?) = _
  rw [Array.getElem?_modify, if_pos rfl, h]
  rfl
theorem option_Sort.holds_of {w : World} {g : Nat} {xs : List (S23)} (hC : Kd.C k23 w (some ⟨g, 0, none⟩) xs.length xs) {cur : Array Value} {e : TypeId} (hb : w.heap[g]? = some (.cells cur e (0, 0))) :
    Sort.HoldsK option_Sort.enc 3 w g 0 xs.toArray := by
  intro t ht
  rw [Sort.size_flatK] at ht
  rw [List.size_toArray] at ht
  rw [Sort.get_flatK _ _ _ _ (by rw [List.size_toArray]; exact ht)]
  refine ⟨?_, blk_frozen hb _⟩
  have hj : t / 3 < xs.length := (Nat.div_lt_iff_lt_mul (by decide)).2 ht
  obtain ⟨ad, c, e1, _, hK, hc⟩ := Kd.C_get hC z23 (t / 3 : Nat) (by omega) (by omega)
  cases e1
  have hc' := hc (t % 3) ((option_Sort.enc (xs.getD (t / 3) z23))[t % 3]!) ?_
  · rw [show ((((t / 3 : Nat) : Int)).toNat) = t / 3 from by omega] at hc'
    have e2 : (⟨g, 0 + t, none⟩ : Addr) = Addr.add ⟨g, 0, none⟩ (t / 3 * 3 + t % 3) := by
      have := Nat.div_add_mod t 3
      unfold Addr.add
      split
      · rename_i h0
        simp only [Addr.mk.injEq, and_true, true_and]
        have := Nat.mod_add_div t 3
        simp at h0
        omega
      · simp only [Addr.mk.injEq, and_true, true_and]
        omega
    rw [e2]
    refine hc'.trans ?_
    simp [List.getD_eq_getElem?_getD, List.getElem?_eq_getElem hj, hj]
  · obtain rfl := k23_open hK
    rw [show ((((t / 3 : Nat) : Int)).toNat) = t / 3 from by omega]
    have h3 : t % 3 < 3 := Nat.mod_lt _ (by decide)
    unfold option_Sort.enc
    match t % 3, h3 with
    | 0, _ => rfl
    | 1, _ => rfl
    | 2, _ => rfl
theorem option_Sort.reads_of {w : World} {g : Nat} {xs : List (S23)} (hH : Sort.HoldsK option_Sort.enc 3 w g 0 xs.toArray) (hm : xs.length ≤ 9223372036854775807) : Kd.C k23 w (some ⟨g, 0, none⟩) xs.length xs := by
  refine ⟨rfl, hm, fun _ => ⟨_, rfl, fun j p hj => ?_⟩⟩
  obtain ⟨hl, hp⟩ := List.getElem?_eq_some_iff.1 hj
  refine ⟨option_Sort.enc p, rfl, k23_mk w p, fun i u hu => ?_⟩
  have hi : i < 3 := by
    have := (List.getElem?_eq_some_iff.1 hu).1
    simpa [option_Sort.enc] using this
  have h := (hH.cell (i := j) (c := i) (by simpa using hl) hi).1
  have e2 : (⟨g, 0 + j * 3 + i, none⟩ : Addr) = Addr.add ⟨g, 0, none⟩ (j * 3 + i) := by
    unfold Addr.add
    split
    · simp only [Addr.mk.injEq, and_true, true_and]
      omega
    · simp only [Addr.mk.injEq, and_true, true_and]
      omega
  rw [e2] at h
  refine h.trans ?_
  have e3 : xs.toArray[j]! = p := by rw [getElem!_pos xs.toArray j (by simpa using hl)]; exact hp
  rw [e3, List.getElem!_eq_getElem?_getD, hu]
  rfl
theorem option_Sort.sorts {w : World} {base : Nat} {v : Value} {xs : List (S23)} (h : Kd.R k23 48 w base (fun _ => True) v xs) (hlen : xs.length < 4611686018427387904) :
    Calls Try.prog 32 #[v, .func (.func 33) #[] #[]] w fun e w' => e = .returned (.tuple #[]) ∧ (∃ A c, v = .slice A xs.length c ∧ xs.length ≤ c ∧ Kd.C k23 w' A xs.length (option_Sort.srt xs) ∧ ∀ ad, A = some ad → ∃ cur, w'.heap[ad.block]? = some (.cells cur 48 (0, 0))) ∧ w.grownBy w' v.ownBlock := by
  obtain ⟨A, c, rfl⟩ := Kd.R_slice h
  obtain ⟨_, hlc, hC⟩ := Kd.R_reads' h
  obtain ⟨inner, ho⟩ := Kd.R_own h
  have hsl : (option_Sort.srt xs).length = xs.length := List.length_mergeSort _
  rcases ho.2 with ⟨e1, e2⟩ | ⟨g, cap, cur, e1, hg, hh, hnc, hcm, hcs, htake⟩
  · injection e1 with e1 e3 e4
    have hx : xs = [] := List.eq_nil_of_length_eq_zero (by omega)
    subst hx e1
    refine (AnyF.slices_SortFunc_none { option_Sort.sortF with } none c _ w).mono ?_
    rintro e w' ⟨rfl, rfl⟩
    exact ⟨rfl, ⟨_, _, rfl, hlc, by rw [show option_Sort.srt [] = [] from List.length_eq_zero_iff.1 hsl]; exact hC, fun ad h => by cases h⟩, World.grownBy.refl _ _⟩
  · injection e1 with e1 e3 e4
    subst e1 e4
    refine (AnyQ.slices_SortFunc_total option_Sort.sortF 3 Try.isAgg48 Try.sizeOf48 option_Sort.enc (fun _ => rfl) (fun x v hv => by simp [option_Sort.enc] at hv; rcases hv with rfl | rfl | rfl <;> rfl) option_Sort.cf option_Sort.swo 33 #[] g 0 c xs.toArray w (enters_of Try.func33 (by kernel_rfl) rfl) (option_Sort.lays _ _ _ _) (option_Sort.holds_of hC hh) (blk_lt hh) (by simpa using hlen) option_Sort.total).mono ?_
    rintro e w' ⟨rfl, n, os, rfl⟩
    have hlt : (option_Sort.srt xs).toArray.size = xs.toArray.size := by simp [hsl]
    have hrd := option_Sort.reads_of (holdsK_sortWorldK_c option_Sort.enc 3 w g 0 xs.toArray (option_Sort.srt xs).toArray n os (option_Sort.holds_of hC hh) (blk_lt hh) hlt) (by rw [hsl]; omega)
    rw [hsl] at hrd
    refine ⟨rfl, ⟨_, _, rfl, hlc, hrd, fun ad h => ?_⟩, option_Sort.far_sort _ _ _ _ _⟩
    cases h
    exact ⟨_, option_Sort.row_sort hh⟩
def option_Sort.le (x y : S23) : Bool := !(ltOf option_Sort.cf) y x
theorem option_Sort.le_trans (a b c : S23) (h1 : option_Sort.le a b = true) (h2 : option_Sort.le b c = true) : option_Sort.le a c = true := by
  unfold option_Sort.le at *
  rw [Bool.not_eq_true'] at *
  exact option_Sort.swo.ntrans _ _ _ h2 h1
theorem option_Sort.le_total (a b : S23) : (option_Sort.le a b || option_Sort.le b a) = true := by
  unfold option_Sort.le
  rw [option_Sort.ltOf_eq, option_Sort.ltOf_eq]
  unfold option_Less.lt
  simp only [Bool.or_eq_true, Bool.not_eq_true', decide_eq_false_iff_not]
  omega
theorem option_Sort.le_anti (a b : S23) (h1 : option_Sort.le a b = true) (h2 : option_Sort.le b a = true) : a = b := by
  unfold option_Sort.le at *
  rw [Bool.not_eq_true'] at *
  exact option_Sort.total a b h2 h1
theorem option_Sort.le_refl (a : S23) : option_Sort.le a a = true := by
  have := option_Sort.le_total a a
  simpa using this
theorem option_Sort.srt_perm (l : List (S23)) : (option_Sort.srt l).Perm l := List.mergeSort_perm _ _
theorem option_Sort.srt_sorted (l : List (S23)) : (option_Sort.srt l).Pairwise (fun x y => option_Sort.le x y = true) := List.pairwise_mergeSort option_Sort.le_trans option_Sort.le_total l
/-- There is one sorted order. -/
theorem option_Sort.uniq {l l' : List (S23)} (hp : l'.Perm l) (hs : l'.Pairwise (fun x y => option_Sort.le x y = true)) : l' = option_Sort.srt l :=
  List.Perm.eq_of_pairwise (le := fun x y => option_Sort.le x y = true) (fun a b _ _ h1 h2 => option_Sort.le_anti a b h1 h2) hs (option_Sort.srt_sorted l) (hp.trans (option_Sort.srt_perm l).symm)
def option_Sort.outs (l0 l : List (S23)) : List (S23) := l.flatMap fun x => List.replicate (l0.count x) x
theorem option_Sort.outs_mem {l0 l : List (S23)} {x : S23} (h : x ∈ option_Sort.outs l0 l) : x ∈ l := by
  unfold option_Sort.outs at h
  obtain ⟨y, h1, h2⟩ := List.mem_flatMap.1 h
  rw [List.eq_of_mem_replicate h2]
  exact h1
theorem option_Sort.outs_sorted (l0 : List (S23)) : ∀ l : List (S23), l.Pairwise (fun x y => option_Sort.le x y = true) → (option_Sort.outs l0 l).Pairwise (fun x y => option_Sort.le x y = true)
  | [], _ => List.Pairwise.nil
  | a :: l, h => by
    obtain ⟨h1, h2⟩ := List.pairwise_cons.1 h
    show (List.replicate (l0.count a) a ++ option_Sort.outs l0 l).Pairwise _
    refine List.pairwise_append.2 ⟨List.pairwise_replicate.2 (Or.inr (option_Sort.le_refl a)), option_Sort.outs_sorted l0 l h2, fun x hx y hy => ?_⟩
    rw [List.eq_of_mem_replicate hx]
    exact h1 y (option_Sort.outs_mem hy)
theorem option_Sort.outs_count (l0 : List (S23)) (y : S23) : ∀ l : List (S23), l.Nodup → (option_Sort.outs l0 l).count y = if y ∈ l then l0.count y else 0
  | [], _ => by simp [option_Sort.outs]
  | a :: l, h => by
    obtain ⟨h1, h2⟩ := List.nodup_cons.1 h
    show (List.replicate (l0.count a) a ++ option_Sort.outs l0 l).count y = _
    rw [List.count_append, option_Sort.outs_count l0 y l h2, List.count_replicate]
    by_cases e : y = a
    · subst e
      rw [if_neg h1]
      simp
    · have : ¬ (a == y) = true := by simpa using fun q => e q.symm
      rw [if_neg this]
      simp [e]
theorem option_Sort.outs_srt {l0 ks : List (S23)} (hn : ks.Nodup) (hm : ∀ x, x ∈ ks ↔ x ∈ l0) : option_Sort.outs l0 (option_Sort.srt ks) = option_Sort.srt l0 := by
  refine option_Sort.uniq (List.perm_iff_count.2 fun y => ?_) (option_Sort.outs_sorted l0 _ (option_Sort.srt_sorted ks))
  rw [option_Sort.outs_count l0 y _ ((option_Sort.srt_perm ks).nodup_iff.2 hn)]
  split
  · rfl
  · rename_i h
    rw [(option_Sort.srt_perm ks).mem_iff, hm] at h
    exact (List.count_eq_zero.2 h).symm
theorem option_Sort.outs_app (l0 l l' : List (S23)) : option_Sort.outs l0 (l ++ l') = option_Sort.outs l0 l ++ option_Sort.outs l0 l' := List.flatMap_append
theorem option_Sort.outs_one (l0 : List (S23)) (x : S23) : option_Sort.outs l0 [x] = List.replicate (l0.count x) x := by simp [option_Sort.outs]
theorem option_Sort.C_kept {w w1 : World} {A : Option Addr} {n : Nat} {xs : List (S23)} {row : Option Nat} (h : Kd.C k23 w A n xs) (hg : w.grownBy w1 row) (hne : ∀ ad, A = some ad → some ad.block ≠ row) : Kd.C k23 w1 A n xs := by
  refine ⟨h.1, h.2.1, fun hn => ?_⟩
  obtain ⟨ad, e, hc⟩ := h.2.2 hn
  refine ⟨ad, e, fun j p hj => ?_⟩
  obtain ⟨cs, h1, h2, h3⟩ := hc j p hj
  refine ⟨cs, h1, by rw [k23_open h2]; exact k23_mk w1 p, fun i u hu => ?_⟩
  have h4 := h3 i u hu
  have hb : (ad.add (j * k23.sz + i)).block = ad.block := by unfold Addr.add; split <;> rfl
  have h5 := hg.block ad.block (by rw [← hb]; exact World.block_lt_of_cell? w _ h4) (hne ad e)
  unfold World.cell? at h4 ⊢
  rw [hb] at h4 ⊢
  rw [h5]
  exact h4
theorem option_Sort.typed_apart {α : Type} {d : Kd α} {w : World} {g : Nat} {cur : Array Value} {t e base : Nat} {fr : Nat × Nat} {ok : Nat → Prop} {v : Value} {xs : List α} (h : w.heap[g]? = some (.cells cur t fr)) (hR : d.R e w base ok v xs) (hte : t ≠ e) : some g ≠ v.ownBlock := by
  intro he
  obtain ⟨inner, ho⟩ := Kd.R_own hR
  obtain ⟨cells, hc⟩ := own_typed ho _ he.symm
  rw [h] at hc
  injection hc with hc
  injection hc with _ hc
  exact hte hc
def option_Sort.f (l0 : List (S23)) : Option (List (S23)) := if l0.length ≤ 1000000 ∧ ∀ x ∈ l0, option_Sort.wf x = true then some (option_Sort.srt l0) else none
theorem option_Sort.lookrun {w : World} {b n : Nat} {L : List (S23)} (hown : option_Sort.own w b n L) {q : S23} (hq : option_Sort.wf q = true) : (Instr.lookup 61 (.map (some b)) (.agg #[.int .i64 q.f0, .int .i64 q.f1, .int .i64 q.f2]) false).run Try.prog w = .ok (.int .i64 (L.count q : Int)) w := by
  obtain ⟨D, ho, hr⟩ := hown
  obtain ⟨c, hlk, hat, hwc⟩ := ho.lookup_int option_Sort.law Try.underlying61 Try.underlying3 (by kernel_rfl) (option_Sort.keyOf_mk hq)
  rw [hr.2.1 q hq] at hat
  cases hat
  exact hlk
theorem option_Sort.rg_apart {H α : Type} {P : Program} {kt : TypeId} {R : Value → Option (DataW H × List MemPlace)} {b r n : Nat} {D : DataW H} {left : Lit → Bool} {cnt : Nat} {w : World} (h : w.ranges P kt R b r n D left cnt) {v : Value} {d : Kd α} {e base : Nat} {ok : Nat → Prop} {xs : List α} (hR : d.R e w base ok v xs) : some b ≠ v.ownBlock ∧ some r ≠ v.ownBlock := by
  obtain ⟨es, clock, since, seen, c0, hb, F, hs, hD, hr, rest⟩ := h
  obtain ⟨inner, ho⟩ := Kd.R_own hR
  refine ⟨fun he => ?_, fun he => ?_⟩
  · obtain ⟨cells, hc⟩ := own_typed ho _ he.symm
    rw [hb] at hc
    cases hc
  · obtain ⟨cells, hc⟩ := own_typed ho _ he.symm
    rw [hr] at hc
    cases hc
theorem option_Sort.R_iter {H α : Type} {P : Program} {kt : TypeId} {R : Value → Option (DataW H × List MemPlace)} {b r n : Nat} {D : DataW H} {left : Lit → Bool} {cnt : Nat} {w w1 : World} (h : w.ranges P kt R b r n D left cnt) {v : Value} {d : Kd α} {e base : Nat} {xs : List α} (hR : d.R e w base (fun _ => True) v xs) (hg : w.grownBy w1 (some r)) : d.R e w1 base (fun _ => True) v xs := by
  obtain ⟨es, clock, since, seen, c0, hb, F, hs, hD, hr, rest⟩ := h
  refine Kd.R_mono (Kd.R_grown (Kd.R_bound hR) hg (fun k hk he => ?_)) (fun _ _ => trivial)
  injection he with he
  subst he
  obtain ⟨_, _, _, q, _, cells, hc⟩ := hk
  rw [hr] at hc
  cases hc
theorem option_Sort.own_apart {α : Type} {b n : Nat} {L : List (S23)} {w : World} (h : option_Sort.own w b n L) {v : Value} {d : Kd α} {e base : Nat} {ok : Nat → Prop} {xs : List α} (hR : d.R e w base ok v xs) : some b ≠ v.ownBlock := by
  obtain ⟨D, ⟨es, clock, hb, _⟩, _⟩ := h
  obtain ⟨inner, ho⟩ := Kd.R_own hR
  intro he
  obtain ⟨cells, hc⟩ := own_typed ho _ he.symm
  rw [hb] at hc
  cases hc
theorem option_Sort.own_grown {w w' : World} {b n : Nat} {L : List (S23)} {row : Option Nat} (h : option_Sort.own w b n L) (hg : w.grownBy w' row) (hne : some b ≠ row) : option_Sort.own w' b n L := by
  obtain ⟨D, ho, hr⟩ := h
  exact ⟨D, ho.kept hg hne, hr⟩
theorem option_Sort.infoK : (Try.prog.info? 48).map (fun i => (i.zero, i.size, i.bytes)) = some (some (.agg #[.int .i64 0, .int .i64 0, .int .i64 0]), 3, 24) := by kernel_rfl
/-- What the keys that have come are. -/
structure option_Sort.got (l0 ks : List (S23)) (left : Lit → Bool) : Prop where
  nodup : ks.Nodup
  all : ∀ x ∈ ks, option_Sort.wf x = true ∧ x ∈ l0 ∧ left (option_Sort.kl x) = false
  came : ∀ x ∈ l0, left (option_Sort.kl x) = false → x ∈ ks
  isin : ∀ x, option_Sort.wf x = true → left (option_Sort.kl x) = true → x ∈ l0
theorem option_Sort.got_start {l0 : List (S23)} {D : DataW Unit} (h : option_Sort.rep D l0) (hw : ∀ x ∈ l0, option_Sort.wf x = true) : option_Sort.got l0 [] (Maps.has D) :=
  ⟨List.nodup_nil, fun x hx => (by cases hx), fun x hx hl => by rw [h.2.2 x (hw x hx)] at hl; simp [hx] at hl, fun x hx hl => by rw [h.2.2 x hx] at hl; simpa using hl⟩
theorem option_Sort.got_step {l0 ks : List (S23)} {left : Lit → Bool} (h : option_Sort.got l0 ks left) (hw : ∀ x ∈ l0, option_Sort.wf x = true) {q : S23} (hq : option_Sort.wf q = true) (hl : left (option_Sort.kl q) = true) :
    option_Sort.got l0 (ks ++ [q]) (fun z => left z && !z.sameKey (option_Sort.kl q)) := by
  have hs : ∀ x, option_Sort.wf x = true → ((option_Sort.kl x).sameKey (option_Sort.kl q) = true ↔ x = q) := fun x hx =>
    ⟨fun e => option_Sort.kl_inj hx hq (WideAt.sameKey_eq e), fun e => by subst e; exact WideAt.sameKey_self (option_Sort.kl_key _)⟩
  refine ⟨?_, fun x hx => ?_, fun x hx hl' => ?_, fun x hx hl' => ?_⟩
  · rw [List.nodup_append]
    refine ⟨h.nodup, by simp, fun a ha b hb e => ?_⟩
    rw [List.mem_singleton] at hb
    subst e hb
    rw [(h.all _ ha).2.2] at hl
    cases hl
  · rcases List.mem_append.1 hx with hx | hx
    · obtain ⟨h1, h2, h3⟩ := h.all x hx
      exact ⟨h1, h2, by simp [h3]⟩
    · rw [List.mem_singleton] at hx
      subst hx
      exact ⟨hq, h.isin _ hq hl, by simp [(hs x hq).2 rfl]⟩
  · by_cases e : x = q
    · subst e; simp
    · refine List.mem_append_left _ (h.came x hx ?_)
      have : (option_Sort.kl x).sameKey (option_Sort.kl q) = false := Bool.eq_false_iff.2 (fun e' => e ((hs x (hw x hx)).1 e'))
      simpa [this] using hl'
  · simp at hl'
    exact h.isin x hx hl'.1
theorem option_Sort.len_le : ∀ (ks l : List (S23)), ks.Nodup → (∀ x ∈ ks, x ∈ l) → ks.length ≤ l.length
  | [], _, _, _ => Nat.zero_le _
  | k :: ks, l, hn, hs => by
    obtain ⟨h1, h2⟩ := List.nodup_cons.1 hn
    have hk := hs k (by simp)
    have h3 := option_Sort.len_le ks (l.erase k) h2 (fun x hx => (List.mem_erase_of_ne (fun e => by subst e; exact h1 hx)).2 (hs x (by simp [hx])))
    have h4 := List.length_erase_of_mem hk
    have h5 := List.length_pos_of_mem hk
    simp only [List.length_cons]
    omega
theorem option_Sort.got_len {l0 ks : List (S23)} {left : Lit → Bool} (h : option_Sort.got l0 ks left) : ks.length ≤ l0.length :=
  option_Sort.len_le ks l0 h.nodup (fun x hx => (h.all x hx).2.1)
theorem option_Sort.rd_at (l : List (S23)) (i : Nat) (h : i < l.length) : rd_T23 l (i : Int) = l[i] := by unfold rd_T23; simp [List.getD_eq_getElem?_getD, List.getElem?_eq_getElem h]
def option_Sort.T5 : Bool × List (List Nat × List Nat) := (true, [([], []), ([], []), ([1], [1]), ([0, 2], [0, 2]), ([3], [3]), ([0, 2, 2, 0, 1, 2], [0, 2]), ([5], [5]), ([0, 6, 4, 5, 0, 1, 2, 3, 4, 5, 6], [0, 4, 6])])
def option_Sort.B5 : List Nat := [0, 0, 2, 7, 15, 7, 39, 127]
theorem option_Sort.tab5 : rtab .any (opsOf Try.f17 5) = option_Sort.T5 := by kernel_rfl
theorem option_Sort.bits5 : waitsOk option_Sort.T5.2 option_Sort.B5 = true := by kernel_rfl
set_option maxHeartbeats 16000000 in
set_option maxRecDepth 100000 in
theorem option_Sort.calls (A0 : Option Addr) (c0 : Nat) (l0 : List (S23)) (r : List (S23)) (w : World) (hr0 : Kd.C k23 w A0 l0.length l0) (hc0 : l0.length ≤ c0) (h : option_Sort.f l0 = some r) :
    Calls Try.prog 17 #[.slice A0 l0.length c0] w fun e w' => ∃ v0_ : Value, e = .returned (v0_) ∧ Kd.R k23 23 w' w.heap.size (fun _ => True) v0_ r ∧ Below w.heap.size w w' := by
  have hu := Try.underlying23
  have hu2 := Try.underlying48
  have hmm := @run_makeMap Try.prog
  unfold option_Sort.f at h
  by_cases hok : l0.length ≤ 1000000 ∧ ∀ x ∈ l0, option_Sort.wf x = true
  case neg => rw [if_neg hok] at h; cases h
  rw [if_pos hok] at h
  injection h with h
  subst h
  have HR0 := Aside0.mk hr0
  have HC0 := Aside0.mk hc0
  have HW0 := Aside0.mk hok.2
  have HL0 := Aside0.mk hok.1
  clear hr0 hc0 hok
  have HS0 := Aside0.mk (option_Sort.own_new w)
  go_enter Try.func17, Try.ntmps17
  go_wp2
  go_loopw [14] (fun v14 wr => ∃ i : Int, v14 = .int .i64 i ∧ Aside0 (0 ≤ i ∧ i ≤ l0.length) ∧ Aside0 (Below w.heap.size w wr) ∧ Aside0 (option_Sort.own wr w.heap.size i.toNat (l0.take i.toNat))) (fun v14 _ => l0.length - (Lib.intOf v14).toNat)
  case atStart => exact ⟨0, rfl, ⟨Int.le_refl _, by omega⟩, ⟨below_alloc (Below.refl _ w) _⟩, HS0⟩
  case round =>
    clear HS0
    obtain ⟨i, rfl, HI, HB, HS⟩ := hrel
    by_cases c : i < (l0.length : Int)
    · have p1 : 0 ≤ i := HI.out.1
      have d1 : decide (i < (l0.length : Int)) = true := decide_eq_true c
      have d2 : decide (0 ≤ i) = true := decide_eq_true p1
      obtain ⟨ad, e0, h0, h1, h2⟩ := at_T23 HR0.out i p1 c
      cases e0
      replace h0 := (HB.out.cell (World.block_lt_of_cell? w _ h0)).trans h0
      replace h1 := (HB.out.cell (World.block_lt_of_cell? w _ h1)).trans h1
      replace h2 := (HB.out.cell (World.block_lt_of_cell? w _ h2)).trans h2
      have hrd := option_Sort.rd_at l0 i.toNat (by omega)
      rw [Int.toNat_of_nonneg p1] at hrd
      have hq := Aside0.mk (HW0.out (rd_T23 l0 i) (by rw [hrd]; exact List.getElem_mem _))
      have ht := Aside0.mk (show l0.take (i.toNat + 1) = l0.take i.toNat ++ [rd_T23 l0 i] by rw [hrd, List.take_succ_eq_append_getElem])
      clear hrd
      generalize rd_T23 l0 i = q at *
      obtain ⟨q0, q1', q2⟩ := q
      have c2 := Aside0.mk c
      have hw1 := Aside0.mk (show wrap64 (i + 1) = i + 1 by have := HL0.out; unfold wrap64; omega)
      have p1 := eq_true p1
      have q1 := eq_true c
      clear c
      simp only at h0 h1 h2
      go_wp2
      have HB1 := Aside0.mk (below_alloc HB.out (.cells #[.int .i64 q0, .int .i64 q1', .int .i64 q2] 23))
      have HS1 := Aside0.mk (option_Sort.own_below HS.out (below_alloc (Below.refl _ wr) (.cells #[.int .i64 q0, .int .i64 q1', .int .i64 q2] 23)))
      have k0 := blk_cell (blk_new wr (.cells #[.int .i64 q0, .int .i64 q1', .int .i64 q2] 23)) 0
      have k1 := blk_cell (blk_new wr (.cells #[.int .i64 q0, .int .i64 q1', .int .i64 q2] 23)) 1
      have k2 := blk_cell (blk_new wr (.cells #[.int .i64 q0, .int .i64 q1', .int .i64 q2] 23)) 2
      have hgb := Aside0.mk (show w.heap.size ≤ wr.heap.size from HB.out.size)
      have hwn := Aside0.mk (show i.toNat < maxLen by have := HL0.out; have := HI.out; have := c2.out; unfold maxLen; omega)
      have hwl := Aside0.mk (show (l0.take i.toNat).length < 9223372036854775807 by have := HL0.out; rw [List.length_take]; omega)
      have hlt0 := Aside0.mk (show w.heap.size < wr.heap.size by obtain ⟨D, ho, _⟩ := HS.out; exact ho.lt)
      clear HB HS h0 h1 h2
      generalize hW1 : wr.alloc (.cells #[.int .i64 q0, .int .i64 q1', .int .i64 q2] 23) = W1 at *
      have hlt : wr.heap.size < W1.heap.size := by rw [← hW1]; simp
      clear hW1
      generalize wr.heap.size = g5 at *
      have hwc := Aside0.mk (show wrap64 (((l0.take i.toNat).count (⟨q0, q1', q2⟩ : S23) : Int) + 1) = ((l0.take i.toNat).count (⟨q0, q1', q2⟩ : S23) : Int) + 1 by have := List.count_le_length (a := (⟨q0, q1', q2⟩ : S23)) (l := l0.take i.toNat); have := hwl.out; unfold wrap64; omega)
      refine start_ (n := 8) (S := fun w' => w'.cell? ⟨g5, 0, none⟩ = some (.int .i64 q0) ∧ w'.cell? ⟨g5, 1, none⟩ = some (.int .i64 q1') ∧ w'.cell? ⟨g5, 2, none⟩ = some (.int .i64 q2) ∧ (Instr.lookup 61 (.map (some w.heap.size)) (.agg #[.int .i64 q0, .int .i64 q1', .int .i64 q2]) false).run Try.prog w' = .ok (.int .i64 ((l0.take i.toNat).count ⟨q0, q1', q2⟩ : Int)) w') (ds := [7]) #[false, false, false, false, false, false, false, false] (by kernel_rfl) rfl rfl ⟨k0, k1, k2, option_Sort.lookrun (option_Sort.own_below HS1.out (below_drew1 (Below.refl _ _))) hq.out⟩ (fun hHeld => ?_)
      refine with_tabW option_Sort.tab5 option_Sort.bits5 (fun HT_ HW_ => ?_)
      have HB2 := Aside0.mk (below_drew1 HB1.out)
      have HS2 := Aside0.mk (option_Sort.own_below HS1.out (below_drew1 (Below.refl _ _)))
      clear HB1 HS1 k0 k1 k2
      replace hlt : g5 < W1.drew.heap.size := hlt
      generalize W1.drew = W2 at *
      refine pure_ (i := 0) (N := some 18) (v := ?_) (a' := ?_) #[true, false, false, false, false, false, false, false] rfl rfl (any_of HT_.out (by kernel_rfl)) (fun _ _ _ h => h) (Or.inl ⟨by rfl, ?_⟩) ?_ ?_
      rotate_left; focus (intro w'; go_simp; with_reducible rfl)
      rotate_left; focus (simp only [Act.put, List.setIfInBounds_toArray, List.set_cons_zero, List.set_cons_succ, i64_w, i32_w]; rfl)
      refine take_ (i := 1) (N := some 19) (v := ?_) (a' := ?_) #[true, true, false, false, false, false, false, false] rfl rfl (take_ofW HT_.out HW_.out (by kernel_rfl)) (fun _ _ _ h => h) (Or.inl ⟨by rfl, ?_⟩) hHeld ?_ ?_
      rotate_left
      · rintro w' ⟨s0, s1, s2, s3⟩
        go_simp
        with_reducible rfl
      rotate_left; focus (simp only [Act.put, List.setIfInBounds_toArray, List.set_cons_zero, List.set_cons_succ, i64_w, i32_w]; rfl)
      refine one_ (i := 2) (N := some 20) #[true, true, true, false, false, false, false, false] rfl rfl (one_of HT_.out (by kernel_rfl)) (by decide) (fun K hK => ?_)
      refine goes_ Try.func22 (by kernel_rfl) rfl #[.agg #[.int .i64 q0, .int .i64 q1', .int .i64 q2]] (by rfl) rfl rfl (by simp only [List.map_toArray, List.map_cons, List.map_nil]; rfl) ?_
      with_reducible refine (option_of.calls q0 q1' q2 _).mono ?_
      rintro e w3 ⟨rfl, hb⟩
      refine ⟨_, rfl, ?_⟩
      have HB3 := bs HB2 hb
      have HS3 := Aside0.mk (option_Sort.own_below HS2.out hb)
      have t0 := (hb.cell (World.block_lt_of_cell? _ _ hHeld.1)).trans hHeld.1
      have t1 := (hb.cell (World.block_lt_of_cell? _ _ hHeld.2.1)).trans hHeld.2.1
      have t2 := (hb.cell (World.block_lt_of_cell? _ _ hHeld.2.2.1)).trans hHeld.2.2.1
      refine hK.out _ _ ⟨t0, t1, t2, option_Sort.lookrun HS3.out hq.out⟩ (fun hHeld => ?_)
      clear hK K HB2 HS2 t0 t1 t2 hb
      refine norm_ (a' := ?_) ?_ ?_
      rotate_left
      · show Act.put _ (some 20) _ = _
        simp only [Act.put, List.setIfInBounds_toArray, List.set_cons_zero, List.set_cons_succ, i64_w, i32_w]
        rfl
      refine take_ (i := 3) (N := some 21) (v := .int .i64 ((l0.take i.toNat).count ⟨q0, q1', q2⟩ : Int)) (a' := ?_) #[true, true, true, true, false, false, false, false] rfl rfl (take_ofW HT_.out HW_.out (by kernel_rfl)) (fun _ _ _ h => h) (Or.inl ⟨by rfl, ?_⟩) hHeld ?_ ?_
      · rintro w' ⟨s0, s1, s2, s3⟩
        go_simp
      rotate_left; focus (simp only [Act.put, List.setIfInBounds_toArray, List.set_cons_zero, List.set_cons_succ, i64_w, i32_w]; rfl)
      refine pure_ (i := 4) (N := some 22) (v := .int .i64 ((((l0.take i.toNat).count ⟨q0, q1', q2⟩ + 1 : Nat)) : Int)) (a' := ?_) #[true, true, true, true, true, false, false, false] rfl rfl (any_of HT_.out (by kernel_rfl)) (fun _ _ _ h => h) (Or.inl ⟨by rfl, ?_⟩) ?_ ?_
      · intro w'
        go_simp
        exact (i64_w _).trans hwc.out
      rotate_left; focus (simp only [Act.put, List.setIfInBounds_toArray, List.set_cons_zero, List.set_cons_succ, i64_w, i32_w]; rfl)
      obtain ⟨c5, st, w5, hE, hg5, hlk5, hst⟩ := option_Sort.entry HS3.out hwn.out hwl.out hq.out
      have hE' : ∀ ty : TypeId, ty = ty → (Instr.mapEntry 61 (.map (some w.heap.size)) (.agg #[.int .i64 q0, .int .i64 q1', .int .i64 q2])).run Try.prog w3 = .ok (.tuple #[.int .i64 c5, .int .i64 st]) w5 := fun _ _ => hE
      refine one_ (i := 5) (N := some 23) #[true, true, true, true, true, true, false, false] rfl rfl (one_of HT_.out (by kernel_rfl)) (by decide) (fun K hK => ?_)
      refine value_ (by rfl) rfl (v := .tuple #[.int .i64 c5, .int .i64 st]) (w1 := w5) ?_ ?_
      · have h_ := hE' 0 rfl
        go_simp
      have far : ∀ o v, w3.cell? ⟨g5, o, none⟩ = some v → w5.cell? ⟨g5, o, none⟩ = some v := fun o v h => by
        have e : w5.heap[g5]? = w3.heap[g5]? := hg5.block g5 (World.block_lt_of_cell? w3 _ h) (fun e => by injection e with e; have := hlt0.out; omega)
        unfold World.cell? at h ⊢
        rw [e]
        exact h
      have HB5 := Aside0.mk (show Below w.heap.size w w5 from HB3.out.grown hg5 HB3.out.size (fun k hk => by injection hk with hk; omega))
      refine hK.out _ _ ⟨far _ _ hHeld.1, far _ _ hHeld.2.1, far _ _ hHeld.2.2.1, hlk5⟩ (fun hHeld => ?_)
      clear hK K HB3 HS3 far
      refine norm_ (a' := ?_) ?_ ?_
      rotate_left
      · show Act.put _ (some 23) _ = _
        simp only [Act.put, List.setIfInBounds_toArray, List.set_cons_zero, List.set_cons_succ, i64_w, i32_w]
        rfl
      refine pure_ (i := 6) (N := some 24) (v := .int .i64 st) (a' := ?_) #[true, true, true, true, true, true, true, false] rfl rfl (any_of HT_.out (by kernel_rfl)) (fun _ _ _ h => h) (Or.inl ⟨by rfl, ?_⟩) ?_ ?_
      · intro w'
        go_simp
      rotate_left; focus (simp only [Act.put, List.setIfInBounds_toArray, List.set_cons_zero, List.set_cons_succ, i64_w, i32_w]; rfl)
      obtain ⟨w7, hS7, hown7, hg7⟩ := hst w5 rfl
      refine last_ (i := 7) (N := none) #[true, true, true, true, true, true, true, true] rfl rfl (one_of HT_.out (by kernel_rfl)) (by decide) (fun K hK => ?_)
      refine skip_ (w1 := w7) (by rfl) rfl ?_ ?_
      · have h_ := hS7
        rw [show (((l0.take i.toNat).count (⟨q0, q1', q2⟩ : S23) + 1 : Nat) : Int) = ((l0.take i.toNat).count (⟨q0, q1', q2⟩ : S23) : Int) + 1 from rfl] at h_
        go_simp
      refine hK.out _ _ ?_
      clear hK K
      refine done_ (done_of HT_.out (by kernel_rfl)) ?_
      have HB7 := Aside0.mk (show Below w.heap.size w w7 from HB5.out.grown hg7 HB5.out.size (fun k hk => by injection hk with hk; omega))
      have HS7 := Aside0.mk (show option_Sort.own w7 w.heap.size (i + 1).toNat (l0.take (i + 1).toNat) by
        have hi := HI.out.1
        rw [show (i + 1).toNat = i.toNat + 1 by omega, ht.out]
        exact hown7)
      clear hown7 hg7 hS7 hst hE hE' hlk5 hg5 hHeld HB5
      have hw2 := hw1.out
      go_wp2
      rw [hw1.out]
      go_roundw
      case rel => exact ⟨_, rfl, ⟨by have := HI.out; omega, by have := c2.out; omega⟩, HB7, HS7⟩
      case measure => have := HI.out; have := c2.out; simp [Lib.intOf]; omega
    · have hi : i = l0.length := by have := HI.out; omega
      have d1 : decide (i < (l0.length : Int)) = false := decide_eq_false c
      have hE := HS.out
      rw [hi, Int.toNat_natCast, List.take_length] at hE
      obtain ⟨D, ho, hrep⟩ := hE
      have HO := Aside0.mk ho
      have HRp := Aside0.mk hrep
      clear HS ho hrep c hi HI
      go_wp2_with (first | (at_range; refine wpList_range_own _ rfl _ 61 rfl 48 3 option_Sort.law Try.underlying61 _ w.heap.size l0.length D rfl HO.out ?_; intro w1 hrg1 hg1 hs1) | go_in)
      go_frame
      have HG0 := Aside0.mk (option_Sort.got_start HRp.out HW0.out)
      have HB1 := Aside0.mk (HB.out.grown hg1 HB.out.size (fun k hk => by cases hk))
      have HG1 := Aside0.mk hrg1
      have hbr := Aside0.mk (show w.heap.size ≤ wr.heap.size from HB.out.size)
      clear hrg1 hg1 hs1 HB HO
      generalize wr.heap.size = br at *
      go_loopw [6] (fun v6 w2 => ∃ (left : Lit → Bool) (cnt : Nat) (ks : List (S23)), Aside0 (w2.ranges Try.prog 48 (plainElem Try.prog 3) w.heap.size br l0.length D left cnt) ∧ Aside0 (Kd.R k23 48 w2 w.heap.size (fun _ => True) v6 ks) ∧ Aside0 (Below w.heap.size w w2) ∧ Aside0 (option_Sort.got l0 ks left)) (fun _ w2 => w2.rangeLeft w.heap.size br)
      case atStart => exact ⟨_, _, [], HG1, ⟨Kd.R_nil _ _ _ _ _⟩, HB1, HG0⟩
      case round =>
        clear HG1 HG0 HB1
        obtain ⟨left, cnt, ks, HR, HK, HB, HG⟩ := hrel
        go_wp2_with (first | (at_next; refine wpList_next_ranges _ rfl _ rfl 48 option_Sort.law _ (fun x : S23 => .agg #[.int .i64 x.f0, .int .i64 x.f1, .int .i64 x.f2]) (fun c : Int => .int .i64 c) (fun key kl h => by obtain ⟨x, _, e, _⟩ := option_Sort.keyOf_inv h; exact ⟨x, e⟩) (fun v y h => by obtain ⟨c, e, _⟩ := plainElem_int_inv Try.underlying3 h; exact ⟨c, e⟩) w.heap.size br l0.length D left cnt rfl HR.out ?_ ?_) | go_in)
        · intro hc0 hl0
          obtain ⟨Ak, ck, rfl⟩ := Kd.R_slice HK.out
          have hlen := Aside0.mk (option_Sort.got_len HG.out)
          have hks := Aside0.mk (show ∀ x, x ∈ ks ↔ x ∈ l0 from fun x => ⟨fun h => (HG.out.all x h).2.1, fun h => HG.out.came x h (hl0 _)⟩)
          have hnd := Aside0.mk HG.out.nodup
          have HS := Aside0.mk (show option_Sort.own wr w.heap.size l0.length l0 from ⟨D, HR.out.owns, HRp.out⟩)
          have hwk := Aside0.mk (show ∀ x ∈ option_Sort.srt ks, option_Sort.wf x = true from fun x h => HW0.out x ((hks.out x).1 ((option_Sort.srt_perm ks).mem_iff.1 h)))
          have hsl := Aside0.mk (show (option_Sort.srt ks).length = ks.length from List.length_mergeSort _)
          clear hc0 hl0 HR HG HRp
          go_wp2_with fail
          refine (option_Sort.sorts HK.out (by have := HL0.out; have := hlen.out; omega)).mono ?_
          rintro e w4 ⟨rfl, ⟨A, c, e1, hlc, hC, hty⟩, hg⟩
          injection e1 with e1 e2 e3
          subst e1 e3
          have HB4 := Aside0.mk (HB.out.grown hg HB.out.size (fun k hk => Kd.R_base HK.out k hk))
          have HS4 := Aside0.mk (option_Sort.own_grown HS.out hg (option_Sort.own_apart HS.out HK.out))
          have HC4 := Aside0.mk hC
          have HT4 := Aside0.mk hty
          clear hg hC hty HB HS HK e2
          go_wp2
          have hO4 := Aside0.mk (Kd.R_nil k23 23 w4 w.heap.size (fun _ => True))
          obtain ⟨sk, hsk⟩ : ∃ sk, option_Sort.srt ks = sk := ⟨_, rfl⟩
          have hend := Aside0.mk (option_Sort.outs_srt hnd.out hks.out)
          rw [hsk] at HC4 hwk hsl hend
          have hol := Aside0.mk (show ∀ t, (option_Sort.outs l0 (sk.take t)).length ≤ l0.length from fun t => by
            have h1 := congrArg List.length hend.out
            rw [show option_Sort.outs l0 sk = option_Sort.outs l0 (sk.take t) ++ option_Sort.outs l0 (sk.drop t) by rw [← option_Sort.outs_app, List.take_append_drop], List.length_append, show (option_Sort.srt l0).length = l0.length from List.length_mergeSort _] at h1
            omega)
          clear hsk hnd hks
          go_loopw [8, 40] (fun v8 v40 wr => ∃ m : Int, v40 = .int .i64 m ∧ Aside0 (0 ≤ m ∧ m ≤ ks.length) ∧ Aside0 (Kd.R k23 23 wr w.heap.size (fun _ => True) v8 (option_Sort.outs l0 (sk.take m.toNat))) ∧ Aside0 (Below w.heap.size w wr) ∧ Aside0 (option_Sort.own wr w.heap.size l0.length l0) ∧ Aside0 (Kd.C k23 wr Ak ks.length sk) ∧ Aside0 (∀ ad, Ak = some ad → ∃ cur, wr.heap[ad.block]? = some (.cells cur 48 (0, 0)))) (fun _ v40 _ => ks.length - (Lib.intOf v40).toNat)
          case atStart => exact ⟨0, rfl, ⟨Int.le_refl _, by omega⟩, hO4, HB4, HS4, HC4, HT4⟩
          case round =>
            clear hO4 HB4 HS4 HC4 HT4
            obtain ⟨m, rfl, HM, HO, HB, HS, HC, HT⟩ := hrel
            by_cases c : m < (ks.length : Int)
            · have p1 : 0 ≤ m := HM.out.1
              have d1 : decide (m < (ks.length : Int)) = true := decide_eq_true c
              have d2 : decide (0 ≤ m) = true := decide_eq_true p1
              obtain ⟨ad, e0, h0, h1, h2⟩ := at_T23 HC.out m p1 c
              subst e0
              have hrd := option_Sort.rd_at sk m.toNat (by have := hsl.out; omega)
              rw [Int.toNat_of_nonneg p1] at hrd
              have hq := Aside0.mk (hwk.out (rd_T23 sk m) (by rw [hrd]; exact List.getElem_mem _))
              have ht := Aside0.mk (show sk.take (m.toNat + 1) = sk.take m.toNat ++ [rd_T23 sk m] by rw [hrd, List.take_succ_eq_append_getElem])
              clear hrd
              generalize rd_T23 sk m = q at *
              obtain ⟨q0, q1, q2⟩ := q
              have cc := Aside0.mk c
              have hw1 := Aside0.mk (show wrap64 (m + 1) = m + 1 by have := HL0.out; have := hlen.out; have := HM.out; unfold wrap64; omega)
              have p1 := eq_true p1
              have q1' := eq_true c
              clear c
              simp only at h0 h1 h2
              go_wp2_with (first | (at_lookup; refine option_Sort.look rfl _ _ rfl w.heap.size l0.length l0 ?hown rfl (⟨q0, q1, q2⟩ : S23) hq.out rfl ?_; (case hown => exact option_Sort.own_below HS.out (below_alloc (Below.refl _ _) _))))
              have hcn := Aside0.mk (List.count_le_length (a := (⟨q0, q1, q2⟩ : S23)) (l := l0))
              have ht2 := Aside0.mk (option_Sort.outs_one l0 (⟨q0, q1, q2⟩ : S23))
              have HO1 := Aside0.mk (Kd.R_alloc HO.out (.cells #[.int .i64 q0, .int .i64 q1, .int .i64 q2] 48))
              have HB1 := Aside0.mk (below_alloc HB.out (.cells #[.int .i64 q0, .int .i64 q1, .int .i64 q2] 48))
              have HS1 := Aside0.mk (option_Sort.own_below HS.out (below_alloc (Below.refl _ wr) (.cells #[.int .i64 q0, .int .i64 q1, .int .i64 q2] 48)))
              have HC1 := Aside0.mk (Kd.C_below HC.out (below_alloc (Below.refl _ wr) (.cells #[.int .i64 q0, .int .i64 q1, .int .i64 q2] 48)))
              have HT1 := Aside0.mk (show ∀ a_, some ad = some a_ → ∃ cur, (wr.alloc (.cells #[.int .i64 q0, .int .i64 q1, .int .i64 q2] 48)).heap[a_.block]? = some (.cells cur 48 (0, 0)) from fun a_ e => by
                obtain ⟨cur, h⟩ := HT.out a_ e
                exact ⟨cur, blk_alloc h _⟩)
              have HX1 := Aside0.mk (blk_new wr (.cells #[.int .i64 q0, .int .i64 q1, .int .i64 q2] 48))
              clear HO HB HS HC HT h0 h1 h2
              generalize l0.count (⟨q0, q1, q2⟩ : S23) = cn at *
              generalize wr.alloc (.cells #[.int .i64 q0, .int .i64 q1, .int .i64 q2] 48) = W1 at *
              generalize wr.heap.size = gx at *
              go_loopw [8, 47] (fun v8 v47 w5 => ∃ j : Int, v47 = .int .i64 j ∧ Aside0 (0 ≤ j ∧ j ≤ cn) ∧ Aside0 (Kd.R k23 23 w5 w.heap.size (fun _ => True) v8 (option_Sort.outs l0 (sk.take m.toNat) ++ List.replicate j.toNat (⟨q0, q1, q2⟩ : S23))) ∧ Aside0 (Below w.heap.size w w5) ∧ Aside0 (option_Sort.own w5 w.heap.size l0.length l0) ∧ Aside0 (Kd.C k23 w5 (some ad) ks.length sk) ∧ Aside0 (∀ a_, some ad = some a_ → ∃ cur, w5.heap[a_.block]? = some (.cells cur 48 (0, 0))) ∧ Aside0 (w5.heap[gx]? = some (.cells #[.int .i64 q0, .int .i64 q1, .int .i64 q2] 48 (0, 0)))) (fun _ v47 _ => cn - (Lib.intOf v47).toNat)
              case atStart => exact ⟨0, rfl, ⟨Int.le_refl _, by omega⟩, ⟨by have h := HO1.out; simpa using h⟩, HB1, HS1, HC1, HT1, HX1⟩
              case round =>
                clear HO1 HB1 HS1 HC1 HT1 HX1
                obtain ⟨j, rfl, HJ, HO, HB, HS, HC, HT, HX⟩ := hrel
                obtain ⟨cur, hcur⟩ : ∃ cur, option_Sort.outs l0 (sk.take m.toNat) ++ List.replicate j.toNat (⟨q0, q1, q2⟩ : S23) = cur := ⟨_, rfl⟩
                rw [hcur] at HO
                have hcu := Aside0.mk hcur
                clear hcur
                obtain ⟨Ao, co, rfl⟩ := Kd.R_slice HO.out
                by_cases c : j < (cn : Int)
                · have d1 : decide (j < (cn : Int)) = true := decide_eq_true c
                  have hw3 := Aside0.mk (show wrap64 (j + 1) = j + 1 by have := HL0.out; have := hcn.out; have := HJ.out; unfold wrap64; omega)
                  have x0 := (blk_cell HX.out 0).trans rfl
                  have x1 := (blk_cell HX.out 1).trans rfl
                  have x2 := (blk_cell HX.out 2).trans rfl
                  have cj := Aside0.mk c
                  clear c
                  have hln := Aside0.mk (show cur.length ≤ 3000000 by have h1 := hol.out m.toNat; have h2 := congrArg List.length hcu.out; rw [List.length_append, List.length_replicate] at h2; have := hcn.out; have := HL0.out; have := HJ.out; omega)
                  go_wp2_with (first | ((with_reducible refine gate_builtin (b := .append) (xs := #[.tmp 49, .tmp 57]) rfl ?_); (try (refine gate_guard (by rfl) ?_; dsimp only)); at_builtin; refine Kd.R_append k23 (w0 := w) w.heap.size rfl (.tmp 49) (.tmp 57) 40 23 (.agg #[(.int .i64 0), (.int .i64 0), (.int .i64 0)]) 24 rfl Try.underlying40 info23 rfl (by decide) (by omega) (.slice Ao cur.length co) cur (⟨q0, q1, q2⟩ : S23) [.int .i64 q0, .int .i64 q1, .int .i64 q2] (fun _ => True) (fun _ => False) rfl rfl ?aP (fun _ hk => hk.elim) ?aF ?aO ?aB ?aS ?aL ?_; (case aP => exact k23_mkM _ _ _ (⟨q0, q1, q2⟩ : S23)); (case aB => exact HB.out); (case aF => exact (fun _ _ => trivial)); (case aO => exact HO.out); (case aS => exact below_size HB.out); (case aL => have := hln.out; omega); intro v5 w6 ho hb hg hat; have HS5 := Aside0.mk (option_Sort.own_grown HS.out hg (option_Sort.own_apart HS.out HO.out)); have HC5 := Aside0.mk (option_Sort.C_kept HC.out hg (fun a_ e => by obtain ⟨cr, h⟩ := HT.out a_ e; exact option_Sort.typed_apart h HO.out (by decide))); have HT5 := Aside0.mk (show ∀ a_, some ad = some a_ → ∃ cur, w6.heap[a_.block]? = some (.cells cur 48 (0, 0)) from fun a_ e => by obtain ⟨cr, h⟩ := HT.out a_ e; exact ⟨cr, (hg.block _ (blk_lt h) (option_Sort.typed_apart h HO.out (by decide))).trans h⟩); have HX5 := Aside0.mk ((hg.block _ (blk_lt HX.out) (option_Sort.typed_apart HX.out HO.out (by decide))).trans HX.out); have HO5 := Aside0.mk ho; have HB5 := Aside0.mk hb; clear ho hb hg hat HS HC HT HX HO HB))
                  rw [hw3.out]
                  go_roundw
                  case rel => exact ⟨_, rfl, ⟨by have := HJ.out; omega, by have := cj.out; omega⟩, ⟨by
                    rw [show (j + 1).toNat = j.toNat + 1 by have := HJ.out; omega, List.replicate_succ', ← List.append_assoc, hcu.out]
                    exact HO5.out⟩, HB5, HS5, HC5, HT5, HX5⟩
                  case measure => have := HJ.out; have := cj.out; simp [Lib.intOf]; omega
                · have hj : j = cn := by have := HJ.out; omega
                  have d1 : decide (j < (cn : Int)) = false := decide_eq_false c
                  have hfin := Aside0.mk (show option_Sort.outs l0 (sk.take (m + 1).toNat) = cur by
                    rw [show (m + 1).toNat = m.toNat + 1 by have := HM.out; omega, ht.out, option_Sort.outs_app, ht2.out, ← hcu.out, hj, Int.toNat_natCast])
                  clear c hj
                  go_wp2
                  rw [hw1.out]
                  go_roundw
                  case rel => exact ⟨_, rfl, ⟨by have := HM.out; omega, by have := cc.out; omega⟩, ⟨by rw [hfin.out]; exact HO.out⟩, HB, HS, HC, HT⟩
                  case measure => have := HM.out; have := cc.out; simp [Lib.intOf]; omega
            · have hm : m = ks.length := by have := HM.out; omega
              have d1 : decide (m < (ks.length : Int)) = false := decide_eq_false c
              have hfin := Aside0.mk (show option_Sort.outs l0 (sk.take m.toNat) = option_Sort.srt l0 by rw [hm, Int.toNat_natCast, List.take_of_length_le (by have := hsl.out; omega)]; exact hend.out)
              rw [hfin.out] at HO
              clear c hm
              go_wp2
              go_ret
              exact ⟨_, rfl, HO.out, HB.out⟩
        · intro x c kl y1 y2 w3 cnt3 hkey hlk hv hat hrg hlt hg3 hs3 hen
          obtain ⟨x', hwx, hkx, rfl⟩ := option_Sort.keyOf_inv hkey
          obtain rfl : x = x' := option_Sort.key_inj hkx
          obtain ⟨q0, q1, q2⟩ := x
          have hlen := Aside0.mk (option_Sort.got_len HG.out)
          have HG' := Aside0.mk (option_Sort.got_step HG.out HW0.out hwx hlk)
          have HB3 := Aside0.mk (show Below w.heap.size w w3 from HB.out.grown hg3 HB.out.size (fun k hk => by injection hk with hk; have := hbr.out; omega))
          have HK3 := Aside0.mk (option_Sort.R_iter HR.out HK.out hg3)
          have HR3 := Aside0.mk hrg
          have hm := Aside0.mk (show ∀ W : World, W.ranges Try.prog 48 (plainElem (H := Unit) Try.prog 3) w.heap.size br l0.length D (fun z => left z && !z.sameKey (option_Sort.kl ⟨q0, q1, q2⟩)) cnt3 → W.rangeLeft w.heap.size br < wr.rangeLeft w.heap.size br from fun W h => by rw [h.left_eq, HR.out.left_eq]; exact hlt)
          obtain ⟨Ak, ck, rfl⟩ := Kd.R_slice HK.out
          clear hkey hkx hlk hv hat hrg hlt hg3 hs3 HB HK HR HG
          simp only at hen
          go_wp2_with (first | ((with_reducible refine gate_builtin (b := .append) (xs := #[.tmp 32, .tmp 34]) rfl ?_); (try (refine gate_guard (by rfl) ?_; dsimp only)); at_builtin; refine Kd.R_append k23 (w0 := w) w.heap.size rfl (.tmp 32) (.tmp 34) 62 48 (.agg #[(.int .i64 0), (.int .i64 0), (.int .i64 0)]) 24 rfl Try.underlying62 option_Sort.infoK rfl (by decide) (by omega) (.slice Ak ks.length ck) ks (⟨q0, q1, q2⟩ : S23) [.int .i64 q0, .int .i64 q1, .int .i64 q2] (fun _ => True) (fun _ => False) rfl ?aX ?aP (fun _ hk => hk.elim) ?aF ?aO ?aB ?aS ?aL ?_; (case aX => rw [World.size_alloc]; rfl); (case aP => exact k23_mkM _ _ _ (⟨q0, q1, q2⟩ : S23)); (case aB => exact below_alloc HB3.out _); (case aF => exact (fun _ _ => trivial)); (case aO => exact Kd.R_alloc HK3.out _); (case aS => exact below_size (below_alloc HB3.out _)); (case aL => have := HL0.out; have := hlen.out; omega); intro v5 w5 ho hb hg hat; have hap := option_Sort.rg_apart (HR3.out.alloc (.cells #[.int .i64 q0, .int .i64 q1, .int .i64 q2] 48)) (Kd.R_alloc HK3.out (.cells #[.int .i64 q0, .int .i64 q1, .int .i64 q2] 48)); have HR5 := Aside0.mk ((HR3.out.alloc (.cells #[.int .i64 q0, .int .i64 q1, .int .i64 q2] 48)).kept hg hap.1 hap.2); have HK5 := Aside0.mk ho; have HB5 := Aside0.mk hb; clear ho hb hg hat hap HR3 HK3 HB3))
          go_roundw
          case rel => exact ⟨_, _, _, HR5, HK5, HB5, HG'⟩
          case measure => exact hm.out _ HR5.out

end Go.Proofs.Ytceldebkpjgmkaa.P
