/- Lemmas of this session that the hand texts lean on: '==' of arrays of two and of three whole numbers. No program in them; no condition beyond each lemma's own. -/
import Derived.WalkKit
import Derived.ChangeKeysEq
import Derived.Laws.StructEq
import Derived.Laws.CopyOwn
import Derived.Laws.EntriesVeiled
import Derived.Test.YtaejikbfnlihmaaWMore
namespace Go.Proofs.YtaejikbfnlihmaaM
open Go.RowKit Go.Proofs.YtaejikbfnlihmaaW.PrintWords Go.Proofs.YtaejikbfnlihmaaW.PrintLast Go.Proofs.YtaejikbfnlihmaaW.PrintMore
set_option linter.unusedVariables false
set_option linter.unusedSimpArgs false
theorem run_equalIn_arr2 {P : Program} (d : Nat) (t e : TypeId) (k : IntKind) (i : TypeInfo) (ht : P.underlying t = some (.array 2 e)) (he : P.underlying e = some (.int k)) (hi : P.info? e = some i) (hs : P.cellsOf e = 1) (a0 a1 b0 b1 : Int) (w : World) :
    (Op.equalIn (d + 2) t (.agg #[.int k a0, .int k a1]) (.agg #[.int k b0, .int k b1])).run P w = .ok (a0 == b0 && (a1 == b1)) w := by
  have hz : (sizeOf e).run P w = .ok 1 w := by rw [run_sizeOf w hi, hs]
  have hag : ∀ W, (isAgg e).run P W = .ok false W := fun W => by unfold isAgg; simp only [Sem.run_bind, run_underlying he, Result.andThen_ok]; rfl
  have hp : ∀ (cs : Array Value) (o : Nat) (v : Value) (W : World), cs[o]? = some v → (part e cs o).run P W = .ok v W := fun cs o v W h => by
    unfold part
    simp only [Sem.run_bind, hag, Result.andThen_ok, h]
    rfl
  have hq : ∀ (x y : Int) (W : World), (Op.equalIn (d + 1) e (.int k x) (.int k y)).run P W = .ok (x == y) W := fun x y W => run_equalIn_int W d e k k x y he
  have p0 : ∀ W, (part e #[.int k a0, .int k a1] (0)).run P W = .ok (.int k a0) W := fun W => hp _ _ _ W rfl
  have q0 : ∀ W, (part e #[.int k b0, .int k b1] (0)).run P W = .ok (.int k b0) W := fun W => hp _ _ _ W rfl
  have p1 : ∀ W, (part e #[.int k a0, .int k a1] ((0 + 1) * 1)).run P W = .ok (.int k a1) W := fun W => hp _ _ _ W rfl
  have q1 : ∀ W, (part e #[.int k b0, .int k b1] ((0 + 1) * 1)).run P W = .ok (.int k b1) W := fun W => hp _ _ _ W rfl
  rw [Op.equalIn]
  simp only [Sem.run_bind, run_underlying ht, Result.andThen_ok, hz]
  rw [Std.Legacy.Range.forIn_eq_forIn_range']
  simp only [Std.Legacy.Range.size, Nat.sub_zero, List.range', Nat.add_sub_cancel, Nat.div_one, List.forIn_cons, List.forIn_nil, Sem.run_bind, Nat.zero_mul, p0, q0, p1, q1, hq, Result.andThen_ok]
  cases g0 : (a0 == b0) with
  | false => rfl
  | true =>
    simp only [Bool.not_true, Bool.false_eq_true, if_false, Sem.run_pure, Result.andThen_ok, Sem.run_bind, p1, q1, hq, Bool.true_and]
    cases g1 : (a1 == b1) with
    | false => rfl
    | true =>
      rfl

/-- A slice over a whole block of numbers. -/
theorem block_reads {W : World} {g : Nat} {t : TypeId} {k : IntKind} {xs : List Int} (h : W.heap[g]? = some (.cells (xs.map (Value.int k)).toArray t (0, 0))) (hm : xs.length ≤ 9223372036854775807) : Kd.C (Kd.int k) W (some ⟨g, 0, none⟩) xs.length xs := by
  refine Kd.C_of_reads (d := (0 : Int)) (h1 := fun _ => rfl) ⟨rfl, hm, fun _ => ⟨_, rfl, fun j hj => ?_⟩⟩
  rw [add_plain, blk_cell h j]
  simp [List.getD_eq_getElem?_getD, List.getElem?_eq_getElem hj]
/-- A contract that only draws, inside a region that is walked quietly. -/
theorem quiet_drawn {P : Program} {f : Nat} {args : Array Value} {W : World} {x : Nat} {v : Value} (h : Calls P f args (W.drewN x) fun e w' => e = .returned v ∧ Drawn0 (W.drewN x) w') :
    Calls P f args (W.drewN x) fun e w'' => e = .returned v ∧ ∃ n, w'' = W.drewN n :=
  h.mono fun _ _ ⟨he, ⟨m, hm⟩⟩ => ⟨he, _, hm.trans (World.drewN_drewN ..)⟩
/-- Two new blocks: each is there. -/
theorem two_old (w : World) (o o' : Obj) : ((w.alloc o).alloc o').heap[w.heap.size]? = some o := blk_alloc (blk_new w o) o'
theorem two_new (w : World) (o o' : Obj) : ((w.alloc o).alloc o').heap[w.heap.size + 1]? = some o' := by
  have h := blk_new (w.alloc o) o'
  rwa [World.size_alloc] at h
theorem blk_setRow {w : World} {b g : Nat} {o : Obj} (h : w.heap[b]? = some o) (hne : b ≠ g) (cs : Array Value) : (w.setRow g cs).heap[b]? = some o := (setRow_other w g b cs hne).trans h
theorem below_trans {w w1 w2 : World} (h : Below w.heap.size w w1) (k : Below w1.heap.size w1 w2) : Below w.heap.size w w2 := below_then h h.size k
/-- 'xs[:k:k]'. -/
theorem cut_max {P : Program} (t e : TypeId) (kh km : IntKind) {i : TypeInfo} (ht : P.underlying t = some (.slice e)) (hi : P.info? e = some i) (A : Option Addr) (n c : Nat) (j : Int) (h0 : 0 ≤ j) (hm : j ≤ c) :
    ∀ W : World, (Instr.slice t (.slice A n c) none (some (.int kh j)) (some (.int km j))).run P W = .ok (.slice A j.toNat j.toNat) W := by
  intro W
  have hel : P.elem t = e := by simp [Program.elem, ht]
  have hu : P.underlying t = some (.slice (P.elem t)) := by rw [hel]; exact ht
  have ha : (A.map fun x => x.add 0) = A := by cases A <;> simp [Addr.add]
  rw [run_slice_hm W t A n c hu kh km j j h0 (Int.le_refl _) hm, hel]
  simp [sizeOf, typeInfo, hi, sliced, Result.andThen, ha]
/-! Rows that a printed text says often. -/
theorem bN {w : World} {g : Nat} {o : Obj} (h : w.heap[g]? = some o) (n : Nat) : (w.drewN n).heap[g]? = some o := h
theorem bD {w : World} {g : Nat} {o : Obj} (h : w.heap[g]? = some o) : w.drew.heap[g]? = some o := h
theorem bA {w : World} {g : Nat} {o : Obj} (h : w.heap[g]? = some o) (o' : Obj) : (w.alloc o').heap[g]? = some o := blk_alloc h o'
theorem bb {w w1 w2 : World} {g : Nat} {o : Obj} (H : Aside0 (w.heap[g]? = some o)) (hb : Below w1.heap.size w1 w2) (k : w.heap[g]? = some o → w1.heap[g]? = some o := by (intro h_; (with_reducible repeat (first | refine bN ?_ _ | refine bD ?_ | refine bA ?_ _)); exact h_)) : Aside0 (w2.heap[g]? = some o) := ⟨blk_below (k H.out) hb⟩
theorem bl {w w1 : World} {g gb : Nat} {o : Obj} (H : Aside0 (w.heap[g]? = some o)) (hg : gb = w1.heap.size) (k : w.heap[g]? = some o → w1.heap[g]? = some o := by (intro h_; (with_reducible repeat (first | refine bN ?_ _ | refine bD ?_ | refine bA ?_ _)); exact h_)) : Aside0 (g ≠ gb) := ⟨by rw [hg]; exact Nat.ne_of_lt (blk_lt (k H.out))⟩
theorem bg {w w1 : World} {g gb : Nat} {o : Obj} (H : Aside0 (w.heap[g]? = some o)) (hg : gb = w1.heap.size) (k : w.heap[g]? = some o → w1.heap[g]? = some o := by (intro h_; (with_reducible repeat (first | refine bN ?_ _ | refine bD ?_ | refine bA ?_ _)); exact h_)) : Aside0 (gb ≠ g) := ⟨by rw [hg]; exact Nat.ne_of_gt (blk_lt (k H.out))⟩
theorem bs {w W W2 w2 : World} (H : Aside0 (Below w.heap.size w W)) (hb : Below W2.heap.size W2 w2) (k : Below w.heap.size w W → Below w.heap.size w W2 := by (intro h_; repeat (first | (with_reducible first | exact h_ | apply below_alloc | apply pw_below_drewN | apply below_drew1 | refine below_set ?_ (Aside0.out (by assumption))) | exact h_))) : Aside0 (Below w.heap.size w w2) := ⟨below_step (k H.out) hb⟩
theorem bz {w W W2 : World} {gb : Nat} (H : Aside0 (Below w.heap.size w W)) (hg : gb = W2.heap.size) (k : Below w.heap.size w W → Below w.heap.size w W2 := by (intro h_; repeat (first | (with_reducible first | exact h_ | apply below_alloc | apply pw_below_drewN | apply below_drew1 | refine below_set ?_ (Aside0.out (by assumption))) | exact h_))) : Aside0 (w.heap.size ≤ gb) := ⟨by rw [hg]; exact below_size (k H.out)⟩
theorem cc2 {w : World} {g : Nat} {t : TypeId} {v0 v1 : Value} {vs : List Value} (H : Aside0 (w.heap[g]? = some (.cells (List.toArray (v0 :: v1 :: vs)) t (0, 0)))) : w.cell? ⟨g, 0, none⟩ = some v0 ∧ w.cell? ⟨g, 1, none⟩ = some v1 := ⟨(blk_cell H.out 0).trans rfl, (blk_cell H.out 1).trans rfl⟩
theorem cf2 {w : World} {g : Nat} {t : TypeId} {cs : Array Value} (H : Aside0 (w.heap[g]? = some (.cells cs t (0, 0)))) : w.frozen? ⟨g, 0, none⟩ = false ∧ w.frozen? ⟨g, 1, none⟩ = false := ⟨blk_frozen H.out 0, blk_frozen H.out 1⟩
theorem cc3 {w : World} {g : Nat} {t : TypeId} {v0 v1 v2 : Value} {vs : List Value} (H : Aside0 (w.heap[g]? = some (.cells (List.toArray (v0 :: v1 :: v2 :: vs)) t (0, 0)))) : w.cell? ⟨g, 0, none⟩ = some v0 ∧ w.cell? ⟨g, 1, none⟩ = some v1 ∧ w.cell? ⟨g, 2, none⟩ = some v2 := ⟨(blk_cell H.out 0).trans rfl, (blk_cell H.out 1).trans rfl, (blk_cell H.out 2).trans rfl⟩
theorem cf3 {w : World} {g : Nat} {t : TypeId} {cs : Array Value} (H : Aside0 (w.heap[g]? = some (.cells cs t (0, 0)))) : w.frozen? ⟨g, 0, none⟩ = false ∧ w.frozen? ⟨g, 1, none⟩ = false ∧ w.frozen? ⟨g, 2, none⟩ = false := ⟨blk_frozen H.out 0, blk_frozen H.out 1, blk_frozen H.out 2⟩
theorem cc6 {w : World} {g : Nat} {t : TypeId} {v0 v1 v2 v3 v4 v5 : Value} {vs : List Value} (H : Aside0 (w.heap[g]? = some (.cells (List.toArray (v0 :: v1 :: v2 :: v3 :: v4 :: v5 :: vs)) t (0, 0)))) : w.cell? ⟨g, 0, none⟩ = some v0 ∧ w.cell? ⟨g, 1, none⟩ = some v1 ∧ w.cell? ⟨g, 2, none⟩ = some v2 ∧ w.cell? ⟨g, 3, none⟩ = some v3 ∧ w.cell? ⟨g, 4, none⟩ = some v4 ∧ w.cell? ⟨g, 5, none⟩ = some v5 := ⟨(blk_cell H.out 0).trans rfl, (blk_cell H.out 1).trans rfl, (blk_cell H.out 2).trans rfl, (blk_cell H.out 3).trans rfl, (blk_cell H.out 4).trans rfl, (blk_cell H.out 5).trans rfl⟩
theorem cf6 {w : World} {g : Nat} {t : TypeId} {cs : Array Value} (H : Aside0 (w.heap[g]? = some (.cells cs t (0, 0)))) : w.frozen? ⟨g, 0, none⟩ = false ∧ w.frozen? ⟨g, 1, none⟩ = false ∧ w.frozen? ⟨g, 2, none⟩ = false ∧ w.frozen? ⟨g, 3, none⟩ = false ∧ w.frozen? ⟨g, 4, none⟩ = false ∧ w.frozen? ⟨g, 5, none⟩ = false := ⟨blk_frozen H.out 0, blk_frozen H.out 1, blk_frozen H.out 2, blk_frozen H.out 3, blk_frozen H.out 4, blk_frozen H.out 5⟩
theorem cc7 {w : World} {g : Nat} {t : TypeId} {v0 v1 v2 v3 v4 v5 v6 : Value} {vs : List Value} (H : Aside0 (w.heap[g]? = some (.cells (List.toArray (v0 :: v1 :: v2 :: v3 :: v4 :: v5 :: v6 :: vs)) t (0, 0)))) : w.cell? ⟨g, 0, none⟩ = some v0 ∧ w.cell? ⟨g, 1, none⟩ = some v1 ∧ w.cell? ⟨g, 2, none⟩ = some v2 ∧ w.cell? ⟨g, 3, none⟩ = some v3 ∧ w.cell? ⟨g, 4, none⟩ = some v4 ∧ w.cell? ⟨g, 5, none⟩ = some v5 ∧ w.cell? ⟨g, 6, none⟩ = some v6 := ⟨(blk_cell H.out 0).trans rfl, (blk_cell H.out 1).trans rfl, (blk_cell H.out 2).trans rfl, (blk_cell H.out 3).trans rfl, (blk_cell H.out 4).trans rfl, (blk_cell H.out 5).trans rfl, (blk_cell H.out 6).trans rfl⟩
theorem cf7 {w : World} {g : Nat} {t : TypeId} {cs : Array Value} (H : Aside0 (w.heap[g]? = some (.cells cs t (0, 0)))) : w.frozen? ⟨g, 0, none⟩ = false ∧ w.frozen? ⟨g, 1, none⟩ = false ∧ w.frozen? ⟨g, 2, none⟩ = false ∧ w.frozen? ⟨g, 3, none⟩ = false ∧ w.frozen? ⟨g, 4, none⟩ = false ∧ w.frozen? ⟨g, 5, none⟩ = false ∧ w.frozen? ⟨g, 6, none⟩ = false := ⟨blk_frozen H.out 0, blk_frozen H.out 1, blk_frozen H.out 2, blk_frozen H.out 3, blk_frozen H.out 4, blk_frozen H.out 5, blk_frozen H.out 6⟩
end Go.Proofs.YtaejikbfnlihmaaM
