/- The blocks that a call has made, each whole: loads, stores and new ones by one law each. No program in them; no condition beyond each lemma's own. -/
import Derived.WalkKit
import Derived.Test.YtphonmldcbgklaaMine
namespace Go.Proofs.YtphonmldcbgklaaM
open Go.RowKit Go.Proofs.YtphonmldcbgklaaW.PrintWords Go.Proofs.YtphonmldcbgklaaW.PrintLast Go.Proofs.YtphonmldcbgklaaW.PrintMore
set_option linter.unusedVariables false
set_option linter.unusedSimpArgs false
/-- The call's own blocks: each with its cells and its type. -/
def Mem (w0 W : World) (m : List (Nat × List Value × TypeId)) : Prop :=
  Below w0.heap.size w0 W ∧ (m.map (·.1)).Pairwise (· ≠ ·) ∧ ∀ b ∈ m, w0.heap.size ≤ b.1 ∧ W.heap[b.1]? = some (.cells b.2.1.toArray b.2.2 (0, 0))
theorem Mem.nil (w : World) : Mem w w [] := ⟨Below.refl _ _, List.Pairwise.nil, fun b hb => by cases hb⟩
theorem Mem.blk {w0 W : World} {m : List (Nat × List Value × TypeId)} (h : Mem w0 W m) {g : Nat} {cs : List Value} {t : TypeId} (hm : (g, cs, t) ∈ m) : W.heap[g]? = some (.cells cs.toArray t (0, 0)) := (h.2.2 _ hm).2
theorem Mem.call {w0 W W' : World} {m : List (Nat × List Value × TypeId)} (h : Mem w0 W m) (hb : Below W.heap.size W W') : Mem w0 W' m :=
  ⟨below_step h.1 hb, h.2.1, fun b hm => ⟨(h.2.2 b hm).1, blk_below (h.2.2 b hm).2 hb⟩⟩
theorem Mem.drew {w0 W : World} {m : List (Nat × List Value × TypeId)} (h : Mem w0 W m) : Mem w0 W.drew m := h.call (below_drew1 (Below.refl _ _))
theorem Mem.drewN {w0 W : World} {m : List (Nat × List Value × TypeId)} {n : Nat} (h : Mem w0 W m) : Mem w0 (W.drewN n) m := h.call (pw_below_drewN (Below.refl _ _) n)
theorem Mem.below {w0 W : World} {m : List (Nat × List Value × TypeId)} (h : Mem w0 W m) : Below w0.heap.size w0 W := h.1
theorem Mem.new {w0 W : World} {m : List (Nat × List Value × TypeId)} (h : Mem w0 W m) (cs : List Value) (t : TypeId) : Mem w0 (W.alloc (.cells cs.toArray t (0, 0))) ((W.heap.size, cs, t) :: m) := by
  refine ⟨below_alloc h.1 _, ?_, fun b hm => ?_⟩
  · rw [List.map_cons, List.pairwise_cons]
    refine ⟨fun g hg e => ?_, h.2.1⟩
    obtain ⟨b, hb, rfl⟩ := List.mem_map.1 hg
    have := blk_lt (h.2.2 b hb).2
    simp only at e
    omega
  · rcases List.mem_cons.1 hm with rfl | hm
    · exact ⟨h.1.size, blk_new W _⟩
    · exact ⟨(h.2.2 b hm).1, blk_alloc (h.2.2 b hm).2 _⟩
/-- m' is m, but that block g's cells from off on are seg. -/
inductive Upd (g off : Nat) (seg : List Value) : List (Nat × List Value × TypeId) → List (Nat × List Value × TypeId) → Prop
  | head {cs cs' : List Value} {t : TypeId} {r : List (Nat × List Value × TypeId)} (hf : off + seg.length ≤ cs.length) (he : cs.take off ++ (seg ++ cs.drop (off + seg.length)) = cs') : Upd g off seg ((g, cs, t) :: r) ((g, cs', t) :: r)
  | tail {b : Nat × List Value × TypeId} {r r' : List (Nat × List Value × TypeId)} (h : Upd g off seg r r') : Upd g off seg (b :: r) (b :: r')
theorem Upd.map {g off : Nat} {seg : List Value} {m m' : List (Nat × List Value × TypeId)} (h : Upd g off seg m m') : m'.map (·.1) = m.map (·.1) := by
  induction h with
  | head => rfl
  | tail _ ih => rw [List.map_cons, List.map_cons, ih]
theorem Upd.old {g off : Nat} {seg : List Value} {m m' : List (Nat × List Value × TypeId)} (h : Upd g off seg m m') : ∃ cs t, (g, cs, t) ∈ m ∧ off + seg.length ≤ cs.length := by
  induction h with
  | head hf he => exact ⟨_, _, List.mem_cons_self, hf⟩
  | tail _ ih => obtain ⟨cs, t, h1, h2⟩ := ih; exact ⟨cs, t, List.mem_cons_of_mem _ h1, h2⟩
theorem Upd.mem {g off : Nat} {seg : List Value} {m m' : List (Nat × List Value × TypeId)} (h : Upd g off seg m m') (hp : (m.map (·.1)).Pairwise (· ≠ ·)) :
    ∀ b ∈ m', (b.1 ≠ g ∧ b ∈ m) ∨ (∃ cs, (g, cs, b.2.2) ∈ m ∧ b.1 = g ∧ off + seg.length ≤ cs.length ∧ b.2.1 = cs.take off ++ (seg ++ cs.drop (off + seg.length))) := by
  induction h with
  | @head cs cs' t r hf he =>
    intro b hb
    rw [List.map_cons, List.pairwise_cons] at hp
    rcases List.mem_cons.1 hb with rfl | hb
    · exact .inr ⟨cs, List.mem_cons_self, rfl, hf, he.symm⟩
    · exact .inl ⟨fun e => hp.1 _ (List.mem_map.2 ⟨b, hb, rfl⟩) e.symm, List.mem_cons_of_mem _ hb⟩
  | @tail b0 r r' hu ih =>
    intro b hb
    rw [List.map_cons, List.pairwise_cons] at hp
    rcases List.mem_cons.1 hb with rfl | hb
    · refine .inl ⟨fun e => ?_, List.mem_cons_self⟩
      obtain ⟨cs, t, h1, _⟩ := hu.old
      exact hp.1 _ (List.mem_map.2 ⟨_, h1, rfl⟩) e
    · rcases ih hp.2 b hb with ⟨h1, h2⟩ | ⟨cs, h1, h2⟩
      · exact .inl ⟨h1, List.mem_cons_of_mem _ h2⟩
      · exact .inr ⟨cs, List.mem_cons_of_mem _ h1, h2⟩
theorem Mem.set {w0 W : World} {g off : Nat} {seg : List Value} {m m' : List (Nat × List Value × TypeId)} (h : Mem w0 W m) (hu : Upd g off seg m m') : Mem w0 (W.setCells g off seg) m' := by
  obtain ⟨cs0, t0, h0, hf0⟩ := hu.old
  have hb0 := h.2.2 _ h0
  obtain ⟨s1, s2, s3, s4⟩ := setCells_same g seg off W
  refine ⟨h.1.trans ⟨s1, s2, s3, by rw [s4]; exact Nat.le_refl _, fun k hk => setCells_far _ _ k (fun e => ?_)⟩, by rw [hu.map]; exact h.2.1, fun b hb => ?_⟩
  · subst e
    have := hb0.1
    simp only at this
    omega
  · rcases hu.mem h.2.1 b hb with ⟨h1, h2⟩ | ⟨cs, h1, h2, h3, h4⟩
    · exact ⟨(h.2.2 b h2).1, (setCells_far _ _ _ h1).trans (h.2.2 b h2).2⟩
    · have hb1 := h.2.2 _ h1
      obtain ⟨cur', q1, q2, q3⟩ := setCells_row seg off W cs.toArray hb1.2 (by simpa using h3)
      refine ⟨by rw [h2]; exact hb1.1, ?_⟩
      rw [h2, q1]
      have : cur' = b.2.1.toArray := by
        apply Array.ext'
        rw [q3, h4]
        simp [List.append_assoc]
      rw [this]
theorem load_cells_ (P : Program) (W : World) (a : Addr) : ∀ (l : List Value) (i : Nat) (acc : Array Value), (∀ j v, l[j]? = some v → W.cell? (a.add (i + j)) = some v) → (loadCellsFrom a i l.length acc).run P W = .ok (acc ++ l.toArray) W
  | [], i, acc, h => by simp [loadCellsFrom]
  | v :: l, i, acc, h => by
    have h0 := h 0 v rfl
    have ih := load_cells_ P W a l (i + 1) (acc.push v) (fun j u hu => by have := h (j + 1) u hu; rw [show i + 1 + j = i + (j + 1) by omega]; exact this)
    rw [Nat.add_zero] at h0
    simp only [List.length_cons, loadCellsFrom, Sem.run_bind, run_load, h0, Result.andThen, ih]
    congr 1
    simp
section
variable {P : Program} {ops : Array Oper} {rest : List Oper} {o : Oper} {a : Act} {Q : Exit → Act → World → Prop} {w0 W : World} {m : List (Nat × List Value × TypeId)}
theorem mem_cell_ {g off : Nat} {cs : List Value} {t : TypeId} (hb : W.heap[g]? = some (.cells cs.toArray t (0, 0))) {i : Nat} {v : Value} (h : cs[off + i]? = some v) : W.cell? ((⟨g, off, none⟩ : Addr).add i) = some v := by
  have : ((⟨g, off, none⟩ : Addr).add i) = ⟨g, off + i, none⟩ := by unfold Addr.add; split <;> simp_all
  rw [this, cell_of_row W g _ cs.toArray t (0, 0) hb]
  simpa using h
theorem run_mem_load {g off k : Nat} {cs seg : List Value} {e : TypeId} (hb : W.heap[g]? = some (.cells cs.toArray e (0, 0))) (t : TypeId) (ha : ∀ w, (isAgg t).run P w = .ok true w) (hs : ∀ w, (Go.sizeOf t).run P w = .ok k w) (hseg : (cs.drop off).take k = seg) (hl : seg.length = k) :
    (Instr.loadAt t (.pointer (some ⟨g, off, none⟩))).run P W = .ok (.agg seg.toArray) W := by
  have h := load_cells_ P W ⟨g, off, none⟩ seg 0 #[] (fun j v hj => by
    rw [Nat.zero_add]
    refine mem_cell_ hb ?_
    rw [← hseg, List.getElem?_take] at hj
    split at hj
    · rwa [List.getElem?_drop] at hj
    · cases hj)
  rw [hl] at h
  unfold Instr.loadAt Instr.sureAddr loadVar loadCells
  simp only [Sem.run_bind, Sem.run_pure, Result.andThen_ok, ha, hs, if_true, h]
  simp
theorem run_mem_load1 {g off : Nat} {cs : List Value} {e : TypeId} {v : Value} (hb : W.heap[g]? = some (.cells cs.toArray e (0, 0))) (t : TypeId) (ha : ∀ w, (isAgg t).run P w = .ok false w) (hv : cs[off]? = some v) :
    (Instr.loadAt t (.pointer (some ⟨g, off, none⟩))).run P W = .ok v W := by
  have h0 : W.cell? ⟨g, off, none⟩ = some v := by rw [cell_of_row W g _ cs.toArray e (0, 0) hb]; simpa using hv
  unfold Instr.loadAt Instr.sureAddr loadVar
  simp only [Sem.run_bind, Sem.run_pure, Result.andThen_ok, ha, Bool.false_eq_true, if_false, run_load, h0]
theorem gate_load {t : TypeId} {p : Operand} (_h : o.op = .load t p) (h : wpList P ops Q (o :: rest) a W) : wpList P ops Q (o :: rest) a W := h
theorem gate_alloc {t : TypeId} (_h : o.op = .alloc t) (h : wpList P ops Q (o :: rest) a W) : wpList P ops Q (o :: rest) a W := h
theorem gate_box {t : TypeId} {p : Operand} (_h : o.op = .box t p) (h : wpList P ops Q (o :: rest) a W) : wpList P ops Q (o :: rest) a W := h
theorem gate_st {t : TypeId} {p x : Operand} (_h : o.op = .store t p x) (h : wpList P ops Q (o :: rest) a W) : wpList P ops Q (o :: rest) a W := h
/-- A whole struct is read. -/
theorem mem_load {g off k : Nat} {cs seg : List Value} {e : TypeId} (t : TypeId) (p : Operand) (hop : o.op = .load t p) (hg : o.guard = none) (ha : ∀ w, (isAgg t).run P w = .ok true w) (hs : ∀ w, (Go.sizeOf t).run P w = .ok k w)
    (hp : a.eval p = .pointer (some ⟨g, off, none⟩)) (M : Mem w0 W m) (hm : (g, cs, e) ∈ m) (hseg : (cs.drop off).take k = seg) (hl : seg.length = k) (hK : wpList P ops Q rest (a.put o.dst (.agg seg.toArray)) W) : wpList P ops Q (o :: rest) a W := by
  refine Kd.event_run hg ?_ hK
  unfold execOp
  simp only [hop, hp, Sem.run_bind, run_mem_load (M.blk hm) t ha hs hseg hl, Result.andThen_ok, Sem.run_pure]
/-- A number, or a bool, is read. -/
theorem mem_load1 {g off : Nat} {cs : List Value} {e : TypeId} {v : Value} (t : TypeId) (p : Operand) (hop : o.op = .load t p) (hg : o.guard = none) (ha : ∀ w, (isAgg t).run P w = .ok false w)
    (hp : a.eval p = .pointer (some ⟨g, off, none⟩)) (M : Mem w0 W m) (hm : (g, cs, e) ∈ m) (hv : cs[off]? = some v) (hK : wpList P ops Q rest (a.put o.dst v) W) : wpList P ops Q (o :: rest) a W := by
  refine Kd.event_run hg ?_ hK
  unfold execOp
  simp only [hop, hp, Sem.run_bind, run_mem_load1 (M.blk hm) t ha hv, Result.andThen_ok, Sem.run_pure]
/-- A variable is made, zero. -/
theorem mem_alloc {cs : List Value} {z : Value} (t : TypeId) (hop : o.op = .alloc t) (hg : o.guard = none) (hz : ∀ w, (zeroValue t).run P w = .ok z w) (hc : z.cells.toList = cs) (M : Mem w0 W m)
    (hK : ∀ g W', Mem w0 W' ((g, cs, t) :: m) → wpList P ops Q rest (a.put o.dst (.pointer (some ⟨g, 0, none⟩))) W') : wpList P ops Q (o :: rest) a W := by
  subst hc
  have h := M.new z.cells.toList t
  rw [Array.toArray_toList] at h
  refine Kd.event_run hg ?_ (hK _ _ h)
  unfold execOp
  simp [hop, Instr.alloc, hz, newVar, newRow, Result.andThen]
/-- A variable is made, with a value. -/
theorem mem_box {cs : List Value} {u : Value} (t : TypeId) (x : Operand) (hop : o.op = .box t x) (hg : o.guard = none) (hx : a.eval x = u) (hc : u.cells.toList = cs) (M : Mem w0 W m)
    (hK : ∀ g W', Mem w0 W' ((g, cs, t) :: m) → wpList P ops Q rest (a.put o.dst (.pointer (some ⟨g, 0, none⟩))) W') : wpList P ops Q (o :: rest) a W := by
  subst hc
  have h := M.new u.cells.toList t
  rw [Array.toArray_toList] at h
  refine Kd.event_run hg ?_ (hK _ _ h)
  unfold execOp
  simp [hop, Instr.box, hx, newVar, newRow, Result.andThen]
/-- A store. -/
theorem mem_store {g off : Nat} {seg : List Value} {u : Value} {m' : List (Nat × List Value × TypeId)} (t : TypeId) (p x : Operand) (hop : o.op = .store t p x) (hN : o.dst = none) (hg : o.guard = none) (hp : a.eval p = .pointer (some ⟨g, off, none⟩)) (hx : a.eval x = u) (hu : u.cells.toList = seg)
    (hs : ∀ w, (Go.sizeOf t).run P w = .ok seg.length w) (h1 : seg.all (·.oneCell') = true) (M : Mem w0 W m) (hU : Upd g off seg m m') (hK : ∀ W', Mem w0 W' m' → wpList P ops Q rest a W') : wpList P ops Q (o :: rest) a W := by
  refine wpList_plain hg fun K hK' => ?_
  obtain ⟨cs, e, hm, hf⟩ := hU.old
  have hb := M.blk hm
  have hrun : (Instr.storeAt t (.pointer (some ⟨g, off, none⟩)) u).run P W = .ok () (W.setCells g off seg) := by
    have hst := run_storeCells_cells (P := P) g off seg 0 W (fun j hj => by rw [cell_of_row W g _ cs.toArray e (0, 0) hb]; simp; omega) (fun j _ => blk_frozen hb _) (fun q hq => List.all_eq_true.1 h1 q hq)
    simp only [Nat.add_zero] at hst
    have hc : u.cells.size = seg.length := by rw [← hu, Array.length_toList]
    simp [Instr.storeAt, Instr.sureAddr, storeVar, hs, hc, hu, hst, Result.andThen]
  unfold Oper.wp execOp
  simp only [hop, hp, hx, Sem.run_bind, Sem.run_pure, Result.andThen_ok, hrun]
  show K (a.put o.dst undef) _
  rw [hN]
  exact hK' a _ (hK _ (M.set hU))
end
theorem run_mem_var {P : Program} {W : World} {g k : Nat} {cs : List Value} {e : TypeId} (hb : W.heap[g]? = some (.cells cs.toArray e (0, 0))) (t : TypeId) (ha : ∀ w, (isAgg t).run P w = .ok true w) (hs : ∀ w, (Go.sizeOf t).run P w = .ok k w) (hl : cs.length = k) :
    (loadVar t ⟨g, 0, none⟩).run P W = .ok (.agg cs.toArray) W := by
  have h := load_cells_ P W ⟨g, 0, none⟩ cs 0 #[] (fun j v hj => by
    rw [Nat.zero_add]
    exact mem_cell_ hb (by rw [Nat.zero_add]; exact hj))
  rw [hl] at h
  unfold loadVar loadCells
  simp only [Sem.run_bind, Sem.run_pure, Result.andThen_ok, ha, hs, if_true, h]
  simp
/-- The end: the result is a whole block. -/
theorem mem_end1 {P : Program} {fn : Func} {R : Ending → World → Prop} {a : Act} {w0 W : World} {m : List (Nat × List Value × TypeId)} {p : Tmp} {ty e : TypeId} {g k : Nat} {cs : List Value} (h : fn.results = #[.cell p ty])
    (ha : ∀ w, (isAgg ty).run P w = .ok true w) (hs : ∀ w, (Go.sizeOf ty).run P w = .ok k w) (hp : a.tmps.getD p undef = .pointer (some ⟨g, 0, none⟩)) (M : Mem w0 W m) (hm : (g, cs, e) ∈ m) (hl : cs.length = k) (hd : a.defers = [])
    (hR : R (.returned (.agg cs.toArray)) W) : bodyPost P fn R .ret a W := by
  refine bodyPost_ret ?_ hd hR
  have hp' : a.tmps[p]?.getD undef = .pointer (some ⟨g, 0, none⟩) := by simpa using hp
  simp [results, h, hp', asAddr, run_mem_var (M.blk hm) ty ha hs hl]
/-- The end: the results are a whole block, and a number or a bool. -/
theorem mem_end2 {P : Program} {fn : Func} {R : Ending → World → Prop} {a : Act} {w0 W : World} {m : List (Nat × List Value × TypeId)} {p u : Tmp} {ty e : TypeId} {g k : Nat} {cs : List Value} {v : Value} (h : fn.results = #[.cell p ty, .tmp u])
    (ha : ∀ w, (isAgg ty).run P w = .ok true w) (hs : ∀ w, (Go.sizeOf ty).run P w = .ok k w) (hp : a.tmps.getD p undef = .pointer (some ⟨g, 0, none⟩)) (hv : a.tmps.getD u undef = v) (M : Mem w0 W m) (hm : (g, cs, e) ∈ m) (hl : cs.length = k) (hd : a.defers = [])
    (hR : R (.returned (.tuple #[.agg cs.toArray, v])) W) : bodyPost P fn R .ret a W := by
  subst hv
  refine bodyPost_ret ?_ hd hR
  rw [results_cell_tmp h, hp]
  simp [asAddr, run_mem_var (M.blk hm) ty ha hs hl, Result.andThen]
/-- The blocks' cells, one by one. -/
def Held (W : World) : List (Nat × List Value × TypeId) → Prop
  | [] => True
  | b :: r => W.heap[b.1]? = some (.cells b.2.1.toArray b.2.2 (0, 0)) ∧ Held W r
theorem Held.mem {W : World} : ∀ {m : List (Nat × List Value × TypeId)}, Held W m → ∀ b ∈ m, W.heap[b.1]? = some (.cells b.2.1.toArray b.2.2 (0, 0))
  | [], _, b, hb => by cases hb
  | c :: r, h, b, hb => by
    rcases List.mem_cons.1 hb with rfl | hb
    · exact h.1
    · exact h.2.mem b hb
theorem Mem.again {w0 W W' : World} {m : List (Nat × List Value × TypeId)} (M : Mem w0 W m) (hb : Below w0.heap.size w0 W') (h : Held W' m) : Mem w0 W' m :=
  ⟨hb, M.2.1, fun b hm => ⟨(M.2.2 b hm).1, h.mem b hm⟩⟩
/-- Loads in a drawn region. -/
theorem mem_exec_load {P : Program} {o : Oper} {a : Act} {w0 : World} {m : List (Nat × List Value × TypeId)} {g off k : Nat} {cs seg : List Value} {e : TypeId} (t : TypeId) (p : Operand) (hop : o.op = .load t p) (ha : ∀ w, (isAgg t).run P w = .ok true w) (hs : ∀ w, (Go.sizeOf t).run P w = .ok k w)
    (hp : a.eval p = .pointer (some ⟨g, off, none⟩)) (hm : (g, cs, e) ∈ m) (hseg : (cs.drop off).take k = seg) (hl : seg.length = k) : ∀ W, Mem w0 W m → (execOp a.eval o).run P W = .ok (.value (.agg seg.toArray)) W := by
  intro W M
  unfold execOp
  simp only [hop, hp, Sem.run_bind, run_mem_load (M.blk hm) t ha hs hseg hl, Result.andThen_ok, Sem.run_pure]
theorem mem_exec_load1 {P : Program} {o : Oper} {a : Act} {w0 : World} {m : List (Nat × List Value × TypeId)} {g off : Nat} {cs : List Value} {e : TypeId} {v : Value} (t : TypeId) (p : Operand) (hop : o.op = .load t p) (ha : ∀ w, (isAgg t).run P w = .ok false w)
    (hp : a.eval p = .pointer (some ⟨g, off, none⟩)) (hm : (g, cs, e) ∈ m) (hv : cs[off]? = some v) : ∀ W, Mem w0 W m → (execOp a.eval o).run P W = .ok (.value v) W := by
  intro W M
  unfold execOp
  simp only [hop, hp, Sem.run_bind, run_mem_load1 (M.blk hm) t ha hv, Result.andThen_ok, Sem.run_pure]
end Go.Proofs.YtphonmldcbgklaaM
