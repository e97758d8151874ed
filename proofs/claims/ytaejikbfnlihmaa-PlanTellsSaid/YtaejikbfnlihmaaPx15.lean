-- Written by a program of this session (hprint.py), out of the translation; functions that the print does not take are given by hand.
import Derived.Test.YtaejikbfnlihmaaPx0
import Derived.Test.YtaejikbfnlihmaaPx6
import Derived.Test.YtaejikbfnlihmaaPx11
import Derived.Test.YtaejikbfnlihmaaPx12
import Derived.Test.YtaejikbfnlihmaaPx13
import Derived.Test.YtaejikbfnlihmaaPx14
namespace Go.Proofs.Ytaejikbfnlihmaa.P
open Go.RowKit Go.Proofs.YtaejikbfnlihmaaM Go.Proofs.YtaejikbfnlihmaaW.PrintWords Go.Proofs.YtaejikbfnlihmaaW.PrintLast Go.Proofs.YtaejikbfnlihmaaW.PrintMore
attribute [local go_sem] max2_int min2_int max_two min_two max_three min_three max_four min_four   -- for this text's walks alone
set_option linter.unusedVariables false
set_option linter.unusedSimpArgs false

/-! ### spring_find: function 82 -/
def spring_find.rem : Nat → List Bool → List (S53) → Int → Int → Int → Option (List Bool)
  | 0, _, _, _, _, _ => none
  | k + 1, L, l, fa, fb, i => if i < (l.length : Int) then (if 0 ≤ i then (if L.getD i.toNat false = true then ((spring_force_below.f fa fb (rd_T53 l i).f0 (rd_T53 l i).f1 (rd_T53 l i).f2).bind fun t => if t = true then spring_find.rem k (L.set i.toNat false) l fa fb (wrap64 (i + 1)) else spring_find.rem k L l fa fb (wrap64 (i + 1))) else spring_find.rem k L l fa fb (wrap64 (i + 1))) else none) else some L
def spring_find.l1 : Nat → List Bool → List (S53) → Int → Option (Int × Int)
  | 0, _, _, _ => none
  | k + 1, L, l, load => (spring_of.f k L l load).bind fun f => (spring_find.rem k L l f.1 f.2 0).bind fun L' => if L'.count true = L.count true then some f else spring_find.l1 k L' l load
def spring_find.pos (s : S53) : Bool := decide (0 < s.f2)
def spring_find.f (k : Nat) (l0 : List (S53)) (a1 : Int) : Option (Int × Int) := spring_find.l1 k (l0.map spring_find.pos) l0 a1
theorem spring_find.mono_r : ∀ k, (∀ y0 y1 y2 y3 y4, LeO (spring_find.rem k y0 y1 y2 y3 y4) (spring_find.rem (k + 1) y0 y1 y2 y3 y4))
  | 0 => fun _ _ _ _ _ r h => by simp [spring_find.rem] at h
  | k + 1 => by
    have ih0 := spring_find.mono_r k
    intro y0 y1 y2 y3 y4
    unfold spring_find.rem
    repeat' first
      | (with_reducible exact ih0 _ _ _ _ _)
      | (with_reducible exact LeO.refl _)
      | (with_reducible exact LeO.none _)
      | (with_reducible refine LeO.ite ?_ ?_)
      | (with_reducible refine LeO.bind ?_ (fun _ => ?_))
      | exact LeO.none _
theorem spring_find.mono_l : ∀ k, (∀ y0 y1 y2, LeO (spring_find.l1 k y0 y1 y2) (spring_find.l1 (k + 1) y0 y1 y2))
  | 0 => fun _ _ _ r h => by simp [spring_find.l1] at h
  | k + 1 => by
    have ih0 := spring_find.mono_l k
    intro y0 y1 y2
    unfold spring_find.l1
    repeat' first
      | (with_reducible exact ih0 _ _ _)
      | (with_reducible exact spring_of.mono _ _ _ _)
      | (with_reducible exact spring_find.mono_r _ _ _ _ _ _)
      | (with_reducible exact LeO.refl _)
      | (with_reducible exact LeO.none _)
      | (with_reducible refine LeO.ite ?_ ?_)
      | (with_reducible refine LeO.bind ?_ (fun _ => ?_))
      | exact LeO.none _
theorem spring_find.mono : ∀ a0 a1 k, LeO (spring_find.f k a0 a1) (spring_find.f (k + 1) a0 a1) := fun _ _ k => spring_find.mono_l k _ _ _
/-- The map in block b has just the numbers of the list that are true. -/
def spring_find.st (W : World) (b m : Nat) (L : List Bool) : Prop := ∃ n D, n ≤ m ∧ spring_of.own W b n D ∧ spring_of.rep D m L ∧ Maps.size D = L.count true ∧ L.length = m
theorem spring_find.st_own {W W' : World} {b m : Nat} {L : List Bool} (h : spring_find.st W b m L) (hk : ∀ n D, spring_of.own W b n D → spring_of.own W' b n D) : spring_find.st W' b m L := by
  obtain ⟨n, D, h1, h2, h3⟩ := h
  exact ⟨n, D, h1, hk n D h2, h3⟩
theorem spring_find.tidy {W : World} {b n : Nat} {D : DataW Unit} (h : spring_of.own W b n D) : Maps.Tidy D := World.ownsMap.tidy h (Maps.int_keyed Try.underlying3)
theorem spring_find.lit_ne {i j : Nat} (h : i ≠ j) : (Lit.int .i64 (i : Int)) ≠ (Lit.int .i64 (j : Int)) := by
  intro e
  injection e with _ e
  omega
theorem spring_find.count_set : ∀ (L : List Bool) (j : Nat), j < L.length → (L.getD j false = false → (L.set j true).count true = L.count true + 1) ∧ (L.getD j false = true → (L.set j false).count true + 1 = L.count true)
  | [], j, h => by simp at h
  | x :: t, 0, _ => by cases x <;> simp
  | x :: t, j + 1, h => by
    have := spring_find.count_set t j (by simpa using h)
    cases x <;> simp at this ⊢ <;> exact ⟨fun q => by have := this.1 q; omega, fun q => by have := this.2 q; omega⟩
theorem spring_find.getD_set (L : List Bool) (j i : Nat) (v : Bool) (hj : j < L.length) : (L.set j v).getD i false = if i = j then v else L.getD i false := by
  rw [List.getD_eq_getElem?_getD, List.getD_eq_getElem?_getD, List.getElem?_set]
  by_cases c : j = i
  · subst c; simp [hj]
  · rw [if_neg c, if_neg (fun q => c q.symm)]
theorem spring_find.st_put {W W' : World} {b m n : Nat} {D : DataW Unit} {L : List Bool} {j : Nat} (ho : spring_of.own W b n D) (hr : spring_of.rep D m L) (hs : Maps.size D = L.count true) (hl : L.length = m) (hj : j < m) (hf : L.getD j false = false) (hn : n + 1 ≤ m)
    {d : DataW Unit} (ho' : spring_of.own W' b (n + 1) (D.put (.int .i64 j) d)) : spring_find.st W' b m (L.set j true) := by
  have ht := spring_find.tidy ho
  refine ⟨n + 1, _, hn, ho', fun i hi => ?_, ?_, by rw [List.length_set]; exact hl⟩
  · rw [spring_find.getD_set L j i true (by omega)]
    by_cases c : i = j
    · subst c
      rw [if_pos rfl]
      exact Maps.has_put_same (World.ownsMap.isMap ho) (by simp [WideAt.IsKeyLit]) d
    · rw [if_neg c, Maps.has_put_other (spring_find.lit_ne c), hr i hi]
  · have h0 := hr j hj
    rw [hf] at h0
    rw [Maps.size_put ht, h0, if_neg (by decide), hs, ((spring_find.count_set L j (by omega)).1 hf)]
theorem spring_find.st_del {W W' : World} {b m n : Nat} {D : DataW Unit} {L : List Bool} {j : Nat} (ho : spring_of.own W b n D) (hr : spring_of.rep D m L) (hs : Maps.size D = L.count true) (hl : L.length = m) (hj : j < m) (hf : L.getD j false = true) (hn : n ≤ m)
    (ho' : spring_of.own W' b n (D.del (.int .i64 j))) : spring_find.st W' b m (L.set j false) := by
  have ht := spring_find.tidy ho
  refine ⟨n, _, hn, ho', fun i hi => ?_, ?_, by rw [List.length_set]; exact hl⟩
  · rw [spring_find.getD_set L j i false (by omega)]
    by_cases c : i = j
    · subst c
      rw [if_pos rfl]
      exact Maps.has_del_same
    · rw [if_neg c, Maps.has_del_other (spring_find.lit_ne c), hr i hi]
  · have h0 := hr j hj
    rw [hf] at h0
    have h1 := Maps.size_del (k := .int .i64 (j : Int)) ht
    rw [h0, if_pos rfl, hs, ← ((spring_find.count_set L j (by omega)).2 hf)] at h1
    omega
/-- What the map has behind the first j. -/
def spring_find.upto (l : List (S53)) (j : Nat) : List Bool := (l.take j).map spring_find.pos ++ List.replicate (l.length - j) false
theorem spring_find.upto_end (l : List (S53)) : spring_find.upto l l.length = l.map spring_find.pos := by simp [spring_find.upto]
theorem spring_find.upto_len (l : List (S53)) (j : Nat) (h : j ≤ l.length) : (spring_find.upto l j).length = l.length := by simp [spring_find.upto]; omega
theorem spring_find.upto_at (l : List (S53)) (j : Nat) (h : j < l.length) : (spring_find.upto l j).getD j false = false := by
  unfold spring_find.upto
  rw [List.getD_eq_getElem?_getD, List.getElem?_append_right (by simp; omega), List.getElem?_replicate]
  split <;> rfl
theorem spring_find.upto_no (l : List (S53)) (j : Nat) (h : j < l.length) (hp : ¬ 0 < (rd_T53 l (j : Int)).f2) : spring_find.upto l j = spring_find.upto l (j + 1) := by
  have e : rd_T53 l (j : Int) = l[j] := by unfold rd_T53; simp [List.getD_eq_getElem?_getD, List.getElem?_eq_getElem h]
  rw [e] at hp
  unfold spring_find.upto
  rw [List.take_succ_eq_append_getElem h, List.map_append, show l.length - j = (l.length - (j + 1)) + 1 by omega, List.replicate_succ, List.append_assoc]
  simp [spring_find.pos, hp]
theorem spring_find.upto_yes (l : List (S53)) (j : Nat) (h : j < l.length) (hp : 0 < (rd_T53 l (j : Int)).f2) : (spring_find.upto l j).set j true = spring_find.upto l (j + 1) := by
  have e : rd_T53 l (j : Int) = l[j] := by unfold rd_T53; simp [List.getD_eq_getElem?_getD, List.getElem?_eq_getElem h]
  rw [e] at hp
  unfold spring_find.upto
  rw [List.take_succ_eq_append_getElem h, List.map_append, show l.length - j = (l.length - (j + 1)) + 1 by omega, List.replicate_succ, List.set_append_right _ _ (by simp; omega), show j - ((l.take j).map spring_find.pos).length = 0 by simp; omega, List.set_cons_zero, List.append_assoc]
  simp [spring_find.pos, hp]
theorem spring_find.st_new (w : World) (l : List (S53)) : spring_find.st (w.alloc (.map #[] 0)) w.heap.size l.length (spring_find.upto l 0) := by
  refine ⟨0, .map [], Nat.zero_le _, World.ownsMap_made _ _ _ _, fun i hi => ?_, ?_, by simp [spring_find.upto]⟩
  · unfold spring_find.upto
    simp only [List.take_zero, List.map_nil, List.nil_append, Nat.sub_zero]
    rw [List.getD_eq_getElem?_getD, List.getElem?_replicate, if_pos hi]
    rfl
  · simp [spring_find.upto, Maps.size, List.count_replicate]
/-- .. of at most as many entries as have been looked at. -/
theorem spring_find.up {W : World} {b m j : Nat} {L : List Bool} (h : spring_find.st W b m L) (hj : j < m) (hf : L.getD j false = false) : ∃ n D, n + 1 ≤ m ∧ spring_of.own W b n D ∧ spring_of.rep D m L ∧ Maps.size D = L.count true ∧ L.length = m := by
  obtain ⟨n, D, h1, h2, h3, h4, h5⟩ := h
  obtain ⟨es, clock, hb, F, hs, hD⟩ := h2
  have e : Maps.size D = es.size := by subst hD; simp [Maps.size, length_sorted]
  have c := (spring_find.count_set L j (by omega)).1 hf
  have l := List.count_le_length (a := true) (l := L.set j true)
  rw [List.length_set] at l
  exact ⟨es.size, D, by omega, ⟨es, clock, hb, F, Nat.le_refl _, hD⟩, h3, h4, h5⟩
theorem spring_find.len_le {w : World} {A : Option Addr} {l : List (S53)} (h : Kd.C k53 w A l.length l) : l.length ≤ 9223372036854775807 := Kd.C_max h
set_option maxHeartbeats 16000000 in
set_option maxRecDepth 100000 in
theorem spring_find.calls (k : Nat) (A0 : Option Addr) (c0 : Nat) (l0 : List (S53)) (a1 : Int) (r1 : Int) (r2 : Int) (w : World) (hr0 : Kd.C k53 w A0 l0.length l0) (hc0 : l0.length ≤ c0) (h : spring_find.f k l0 a1 = some (r1, r2)) :
    Calls Try.prog 82 #[.slice A0 l0.length c0, .int .i64 a1] w fun e w' => e = .returned (.agg #[.int .i64 r1, .int .i64 r2]) ∧ Below w.heap.size w w' := by
  have hu33 := Try.underlying53
  have hu39 := Try.underlying94
  have hmm := @run_makeMap Try.prog
  have HR0 := Aside0.mk hr0
  have HC0 := Aside0.mk hc0
  have HL0 := Aside0.mk (spring_find.len_le hr0)
  clear hr0 hc0
  have H' := Aside0.mk (show spring_find.l1 k (l0.map spring_find.pos) l0 a1 = some (r1, r2) from h)
  clear h
  have HS0 := Aside0.mk (spring_find.st_new (w.alloc (.cells #[.int .i64 0, .int .i64 0] 94)) l0)
  go_enter Try.func82, Try.ntmps82
  go_wp2
  go_loopw [17] (fun v17 w' => ∃ j : Nat, j ≤ l0.length ∧ v17 = .int .i64 j ∧ Aside0 (spring_find.st w' (w.heap.size + 1) l0.length (spring_find.upto l0 j)) ∧ Aside0 (Below w.heap.size w w') ∧ Aside0 (w'.heap[w.heap.size]? = some (.cells #[.int .i64 0, .int .i64 0] 94 (0, 0)))) (fun v17 _ => l0.length - (intOf v17).toNat)
  case atStart => exact ⟨0, Nat.zero_le _, rfl, ⟨by have h_ := HS0.out; simpa using h_⟩, ⟨below_alloc (below_alloc (Below.refl _ _) _) _⟩, ⟨two_old _ _ _⟩⟩
  case round =>
    clear HS0
    obtain ⟨j, hj, rfl, HS, HB, HX⟩ := hrel
    by_cases c1 : j < l0.length
    · obtain ⟨ad, e0, h0, h1, h2⟩ := at_T53 HR0.out (j : Int) (by omega) (by omega)
      cases e0
      replace h0 := (HB.out.cell (World.block_lt_of_cell? w _ h0)).trans h0
      replace h1 := (HB.out.cell (World.block_lt_of_cell? w _ h1)).trans h1
      replace h2 := (HB.out.cell (World.block_lt_of_cell? w _ h2)).trans h2
      rw [Int.toNat_natCast] at h0 h1 h2
      have hl := HL0.out
      by_cases c2 : 0 < (rd_T53 l0 (j : Int)).f2
      · have c2b : decide (0 < (rd_T53 l0 (j : Int)).f2) = true := decide_eq_true c2
        have HY := Aside0.mk (spring_find.upto_yes l0 j c1 c2)
        have HN := Aside0.mk (spring_find.upto_at l0 j c1)
        have hq := Aside0.mk (show (Lit.int .i64 (j : Int)).wf = true by simp only [Lit.wf, Bool.and_eq_true, decide_eq_true_eq]; exact ⟨by show -9223372036854775808 ≤ (j : Int); omega, by show (j : Int) ≤ 9223372036854775807; omega⟩)
        obtain ⟨n, D, n1, ho, hr, hs, hll⟩ := spring_find.up HS.out c1 HN.out
        have HO := Aside0.mk ho
        have HP := Aside0.mk hr
        have HZ := Aside0.mk hs
        have HQ := Aside0.mk hll
        have HN1 := Aside0.mk n1
        have HML := Aside0.mk (show n < maxLen by unfold maxLen; omega)
        clear c2 ho hr hs hll n1
        go_wp2_with (at_mapUpdate; refine spring_of.put rfl _ _ _ rfl (w.heap.size + 1) n D ?hown rfl HML.out (j : Int) hq.out rfl _ _ _ rfl ?_; (case hown => exact HO.out.alloc _); intro w1 ho1 hg1; have HS1 := Aside0.mk (spring_find.st_put HO.out HP.out HZ.out HQ.out c1 HN.out HN1.out ho1); have HB1 := Aside0.mk (Below.grown (below_alloc HB.out _) hg1 (Nat.le_trans HB.out.size (by simp)) (fun k e => by cases e; omega)); have HX1 := Aside0.mk (blk_grown (blk_alloc HX.out _) hg1 (by simp)); clear ho1 hg1)
        go_roundw
        case rel => exact ⟨j + 1, by omega, by go_num, ⟨by rw [← HY.out]; exact HS1.out⟩, HB1, HX1⟩
        case measure => simp [intOf]; omega
      · have c2b : decide (0 < (rd_T53 l0 (j : Int)).f2) = false := decide_eq_false c2
        have HY := Aside0.mk (spring_find.upto_no l0 j c1 c2)
        clear c2
        go_wp2
        go_roundw
        case rel => exact ⟨j + 1, by omega, by go_num, ⟨by rw [← HY.out]; exact spring_find.st_own HS.out (fun _ _ q => q.alloc _)⟩, ⟨by repeat (first | exact HB.out | apply below_alloc | apply pw_below_drewN | apply below_drew1)⟩, ⟨by (with_reducible repeat (first | refine blk_drewN ?_ _ | refine blk_drew ?_ | refine blk_alloc ?_ _)); exact HX.out⟩⟩
        case measure => simp [intOf]; omega
    · obtain rfl : j = l0.length := by omega
      have hl := HL0.out
      have HS1 := Aside0.mk (show spring_find.st wr (w.heap.size + 1) l0.length (l0.map spring_find.pos) by rw [← spring_find.upto_end]; exact HS.out)
      clear HS c1 hj
      go_wp2
      go_loopg [9] k (fun kq v9 w' => ∃ L : List Bool, Aside0 (spring_find.l1 kq L l0 a1 = some (r1, r2)) ∧ Aside0 (kq ≤ k) ∧ Aside0 (spring_find.st w' (w.heap.size + 1) l0.length L) ∧ Aside0 (Below w.heap.size w w') ∧ Aside0 (w'.heap[w.heap.size]? = some (.cells #[.int .i64 0, .int .i64 0] 94 (0, 0))))
      case atStart => exact ⟨_, H', ⟨Nat.le_refl _⟩, HS1, HB, HX⟩
      case round =>
        clear H' HS1 HB HX
        obtain ⟨L, HA, HK1, HS, HB, HX⟩ := hrel
        cases gk with
        | zero => exact absurd HA.out (by simp [spring_find.l1])
        | succ k1 =>
          have H := HA.out
          clear HA
          rw [spring_find.l1] at H
          obtain ⟨f, hf, H⟩ := Option.bind_eq_some_iff.mp H
          obtain ⟨f1, f2⟩ := f
          obtain ⟨L', hL', H⟩ := Option.bind_eq_some_iff.mp H
          dsimp only at hL'
          have HH := Aside0.mk H
          have A1 := Aside0.mk hf
          have A2 := Aside0.mk hL'
          clear H hf hL'
          have HML := Aside0.mk (show l0.length ≤ maxLen by unfold maxLen; exact hl)
          obtain ⟨n, D, n1, ho, hr, hs, hll⟩ := HS.out
          have HO := Aside0.mk ho
          have HP := Aside0.mk hr
          have HZ := Aside0.mk hs
          clear ho hr hs hll n1
          go_wp2_with (first | (go_at_call 92; (with_reducible refine (spring_of.calls k1 L (w.heap.size + 1) n D A0 c0 l0 a1 f1 f2 _ HO.out HP.out (Kd.C_below HR0.out HB.out) HML.out HC0.out A1.out).mono ?_); rintro e w3 ⟨rfl, hb⟩; have HB3 := bs HB hb; have HX3 := bb HX hb; have HO3 := Aside0.mk (spring_of.own_below HO.out hb); have HSW := Aside0.mk (spring_find.st_own HS.out (fun n_ D_ q_ => spring_of.own_below q_ hb)); clear hb) | (at_len; refine spring_of.len rfl _ rfl (w.heap.size + 1) n D ?hown rfl (L.count true) HZ.out ?_; (case hown => exact HO3.out.alloc _)))
          have HS3 := Aside0.mk (spring_find.st_own (W' := w3.alloc (.cells #[.int .i64 f1, .int .i64 f2] 94)) HSW.out (fun n D q => q.alloc _))
          have HX4 := Aside0.mk (blk_alloc HX3.out (.cells #[.int .i64 f1, .int .i64 f2] 94))
          have HB4 := Aside0.mk (below_alloc HB3.out (.cells #[.int .i64 f1, .int .i64 f2] 94))
          have HF4 := Aside0.mk (blk_new w3 (.cells #[.int .i64 f1, .int .i64 f2] 94))
          go_loopg [37] k1 (fun kq v37 w' => ∃ (L2 : List Bool) (i : Int), v37 = .int .i64 i ∧ Aside0 (spring_find.rem kq L2 l0 f1 f2 i = some L') ∧ Aside0 (kq ≤ k1) ∧ Aside0 (spring_find.st w' (w.heap.size + 1) l0.length L2) ∧ Aside0 (Below w.heap.size w w') ∧ Aside0 (w'.heap[w.heap.size]? = some (.cells #[.int .i64 0, .int .i64 0] 94 (0, 0))) ∧ Aside0 (w'.heap[w3.heap.size]? = some (.cells #[.int .i64 f1, .int .i64 f2] 94 (0, 0))))
          case atStart => exact ⟨_, 0, rfl, A2, ⟨Nat.le_refl _⟩, HS3, HB4, HX4, HF4⟩
          case round =>
            have hw3 := Aside0.mk (World.ownsMap.lt HO3.out)
            clear HSW HS3 HB4 HX4 HF4 A2 A1 HO HP HZ HO3 HS HB HX HB3 HX3
            obtain ⟨L2, i, rfl, HA2, HK2, HS, HB, HX, HF⟩ := hrel
            cases gk with
            | zero => exact absurd HA2.out (by simp [spring_find.rem])
            | succ k2 =>
              have H := HA2.out
              clear HA2
              rw [spring_find.rem] at H
              by_cases c2 : i < (l0.length : Int)
              · rw [if_pos c2] at H
                by_cases c3 : 0 ≤ i
                · rw [if_pos c3] at H
                  obtain ⟨ad, e0, h0, h1, h2⟩ := at_T53 HR0.out i c3 c2
                  cases e0
                  replace h0 := (HB.out.cell (World.block_lt_of_cell? w _ h0)).trans h0
                  replace h1 := (HB.out.cell (World.block_lt_of_cell? w _ h1)).trans h1
                  replace h2 := (HB.out.cell (World.block_lt_of_cell? w _ h2)).trans h2
                  obtain ⟨n, D, n1, ho, hr, hs, hll⟩ := HS.out
                  have hq := Aside0.mk (show (Lit.int .i64 i).wf = true by simp only [Lit.wf, Bool.and_eq_true, decide_eq_true_eq]; exact ⟨by show -9223372036854775808 ≤ i; omega, by show i ≤ 9223372036854775807; omega⟩)
                  have hi := Aside0.mk (show Maps.has D (.int .i64 i) = L2.getD i.toNat false by have h_ := hr i.toNat (by omega); rwa [Int.toNat_of_nonneg c3] at h_)
                  have hj := Aside0.mk (show i.toNat < l0.length by omega)
                  have hij := Aside0.mk (Int.toNat_of_nonneg c3)
                  have HO := Aside0.mk ho
                  have HP := Aside0.mk hr
                  have HZ := Aside0.mk hs
                  have HQ := Aside0.mk hll
                  have HN1 := Aside0.mk n1
                  clear ho hr hs hll n1
                  have c2b : decide (i < (l0.length : Int)) = true := decide_eq_true c2
                  have c3b : decide (0 ≤ i) = true := decide_eq_true c3
                  have p1 := eq_true c3
                  have q1 := eq_true c2
                  have z0' : wr.cell? ⟨w3.heap.size, 0, none⟩ = some (.int .i64 f1) := (blk_cell HF.out 0).trans rfl
                  have z1' : wr.cell? ⟨w3.heap.size, 1, none⟩ = some (.int .i64 f2) := (blk_cell HF.out 1).trans rfl
                  have l3 : w3.heap.size < wr.heap.size := blk_lt HF.out
                  have l4 : w3.heap.size < wr.heap.size + 1 := by omega
                  clear c2 c3
                  by_cases c4 : L2.getD i.toNat false = true
                  · rw [if_pos c4] at H
                    obtain ⟨t, ht, H⟩ := Option.bind_eq_some_iff.mp H
                    have hh := Aside0.mk (hi.out.trans c4)
                    have c4' := Aside0.mk c4
                    have A1 := Aside0.mk ht
                    have HH2 := Aside0.mk H
                    clear c4 hi ht H
                    cases t with
                    | true =>
                      have H' := Aside0.mk (show spring_find.rem k2 (L2.set i.toNat false) l0 f1 f2 (wrap64 (i + 1)) = some L' from HH2.out)
                      clear HH2
                      go_wp2_with (first | (at_lookup; refine spring_of.look rfl _ _ rfl (w.heap.size + 1) n D ?hown rfl i hq.out rfl true hh.out ?_; (case hown => exact HO.out.alloc _); intro z0 z1 z2) | (go_at_call 93; (with_reducible refine (spring_force_below.calls f1 f2 _ _ _ true _ A1.out).mono ?_); rintro e w5 ⟨rfl, hb⟩; have HB5 := bs HB hb; have HX5 := bb HX hb; have HF5 := bb HF hb; have HS5 := Aside0.mk (spring_find.st_own HS.out (fun n_ D_ q_ => spring_of.own_below ((q_.alloc _).alloc _) hb)); have HO5 := Aside0.mk (spring_of.own_below ((HO.out.alloc _).alloc _) hb); clear hb) | (at_delete; refine spring_of.drop rfl _ _ rfl (w.heap.size + 1) n D HO5.out rfl i hq.out rfl ?_; intro w6 ho6 hg6; have HS6 := Aside0.mk (spring_find.st_del (j := i.toNat) HO5.out HP.out HZ.out HQ.out hj.out c4'.out HN1.out (by rw [hij.out]; exact ho6)); have HB6 := Aside0.mk (Below.grown HB5.out hg6 HB5.out.size (fun k e => by cases e; omega)); have HX6 := Aside0.mk (blk_grown HX5.out hg6 (by simp)); have HF6 := Aside0.mk (blk_grown HF5.out hg6 (fun e => by injection e with e; have := hw3.out; omega)); clear ho6 hg6))
                      go_roundg k2
                      case measure => have := HK2.out; omega
                      case rel => exact ⟨_, _, rfl, H', ⟨by have := HK2.out; omega⟩, HS6, HB6, HX6, HF6⟩
                    | false =>
                      have H' := Aside0.mk (show spring_find.rem k2 L2 l0 f1 f2 (wrap64 (i + 1)) = some L' from HH2.out)
                      clear HH2
                      go_wp2_with (first | (at_lookup; refine spring_of.look rfl _ _ rfl (w.heap.size + 1) n D ?hown rfl i hq.out rfl true hh.out ?_; (case hown => exact HO.out.alloc _); intro z0 z1 z2) | (go_at_call 93; (with_reducible refine (spring_force_below.calls f1 f2 _ _ _ false _ A1.out).mono ?_); rintro e w5 ⟨rfl, hb⟩; have HB5 := bs HB hb; have HX5 := bb HX hb; have HF5 := bb HF hb; have HS5 := Aside0.mk (spring_find.st_own HS.out (fun n_ D_ q_ => spring_of.own_below ((q_.alloc _).alloc _) hb)); have HO5 := Aside0.mk (spring_of.own_below ((HO.out.alloc _).alloc _) hb); clear hb))
                      go_roundg k2
                      case measure => have := HK2.out; omega
                      case rel => exact ⟨_, _, rfl, H', ⟨by have := HK2.out; omega⟩, HS5, HB5, HX5, HF5⟩
                  · rw [if_neg c4] at H
                    have hh := Aside0.mk (hi.out.trans (by simpa using c4))
                    have H' := Aside0.mk H
                    clear c4 hi H
                    go_wp2_with (first | (at_lookup; refine spring_of.look rfl _ _ rfl (w.heap.size + 1) n D ?hown rfl i hq.out rfl false hh.out ?_; (case hown => exact HO.out.alloc _); intro z0 z1 z2))
                    go_roundg k2
                    case measure => have := HK2.out; omega
                    case rel => exact ⟨_, _, rfl, H', ⟨by have := HK2.out; omega⟩, ⟨spring_find.st_own HS.out (fun _ _ q => (q.alloc _).alloc _)⟩, ⟨by repeat (first | exact HB.out | apply below_alloc | apply pw_below_drewN | apply below_drew1)⟩, ⟨by (with_reducible repeat (first | refine blk_drewN ?_ _ | refine blk_drew ?_ | refine blk_alloc ?_ _)); exact HX.out⟩, ⟨by (with_reducible repeat (first | refine blk_drewN ?_ _ | refine blk_drew ?_ | refine blk_alloc ?_ _)); exact HF.out⟩⟩
                · rw [if_neg c3] at H
                  cases H
              · rw [if_neg c2] at H
                obtain rfl := Option.some.inj H
                have c2b : decide (i < (l0.length : Int)) = false := decide_eq_false c2
                clear c2 H
                obtain ⟨n, D, n1, ho, hr, hs, hll⟩ := HS.out
                have HO := Aside0.mk ho
                have HZ := Aside0.mk hs
                clear ho hr hs hll n1
                have z0 : wr.cell? ⟨w3.heap.size, 0, none⟩ = some (.int .i64 f1) := (blk_cell HF.out 0).trans rfl
                have z1 : wr.cell? ⟨w3.heap.size, 1, none⟩ = some (.int .i64 f2) := (blk_cell HF.out 1).trans rfl
                have H := HH.out
                by_cases c5 : L2.count true = L.count true
                · rw [if_pos c5] at H
                  simp only [Option.some.injEq, Prod.mk.injEq] at H
                  obtain ⟨rfl, rfl⟩ := H
                  have HZ2 := Aside0.mk (HZ.out.trans c5)
                  have y0 : wr.cell? ⟨w.heap.size, 0, none⟩ = some (.int .i64 0) := (blk_cell HX.out 0).trans rfl
                  have y1 : wr.cell? ⟨w.heap.size, 1, none⟩ = some (.int .i64 0) := (blk_cell HX.out 1).trans rfl
                  have g0 : wr.frozen? ⟨w.heap.size, 0, none⟩ = false := blk_frozen HX.out 0
                  have g1 : wr.frozen? ⟨w.heap.size, 1, none⟩ = false := blk_frozen HX.out 1
                  have E := Aside0.mk (blk_put (cs' := #[.int .i64 f1, .int .i64 f2]) (blk_put (cs' := #[.int .i64 f1, .int .i64 0]) HX.out 0 (.int .i64 f1) rfl) 1 (.int .i64 f2) rfl)
                  clear c5 HH
                  go_wp2_with (first | (at_len; refine spring_of.len rfl _ rfl (w.heap.size + 1) n D ?hown rfl (L.count true) HZ2.out ?_; (case hown => exact HO.out)))
                  refine bodyPost_ret (results_cell_row rfl _ _ w.heap.size 94 #[.int .i64 f1, .int .i64 f2] (0, 0) _ rfl E.out Try.underlying94 rfl (by kernel_rfl)) rfl ⟨rfl, below_set (below_set HB.out (Nat.le_refl _)) (Nat.le_refl _)⟩
                · rw [if_neg c5] at H
                  have H' := Aside0.mk H
                  have c5b : (((L2.count true : Nat) : Int) == ((L.count true : Nat) : Int)) = false := beq_eq_false_iff_ne.mpr (fun q => c5 (by exact_mod_cast q))
                  clear c5 HH H
                  go_wp2_with (first | (at_len; refine spring_of.len rfl _ rfl (w.heap.size + 1) n D ?hown rfl (L2.count true) HZ.out ?_; (case hown => exact HO.out)))
                  go_roundg k1
                  case measure => have := HK1.out; omega
                  case rel => exact ⟨L2, H', ⟨by have := HK1.out; omega⟩, HS, HB, HX⟩

/-! ### spring_Force: function 57 -/
def spring_Force.f (k : Nat) (l0 : List (S53)) (a1 : Int) : Option (Int × Int × Bool) := (spring_Room.f k l0 a1).bind fun t201 => (if t201 = true then ((spring_find.f k l0 a1).bind fun bt202 => (some (bt202.1, bt202.2, true))) else (some (0, 0, false)))
theorem spring_Force.mono : ∀ a0 a1 k, LeO (spring_Force.f k a0 a1) (spring_Force.f (k + 1) a0 a1) := by
  intro a0 a1 k
  unfold spring_Force.f
  repeat' first
      | (with_reducible exact spring_Room.mono _ _ _)
      | (with_reducible exact spring_find.mono _ _ _)
      | (with_reducible exact LeO.refl _)
      | (with_reducible exact LeO.none _)
      | (with_reducible refine LeO.ite ?_ ?_)
      | (with_reducible refine LeO.bind ?_ (fun _ => ?_))
      | exact spring_Room.mono _ _ _
      | exact spring_find.mono _ _ _
      | exact LeO.none _
      | refine LeO.ite ?_ ?_
      | refine LeO.bind ?_ (fun _ => ?_)
set_option maxHeartbeats 8000000 in
set_option maxRecDepth 100000 in
theorem spring_Force.calls (k : Nat) (A0 : Option Addr) (c0 : Nat) (l0 : List (S53)) (a1 : Int) (r1 : Int) (r2 : Int) (r3 : Bool) (w : World) (hr0 : Kd.C k53 w A0 l0.length l0) (hc0 : l0.length ≤ c0) (h : spring_Force.f k l0 a1 = some (r1, r2, r3)) :
    Calls Try.prog 57 #[.slice A0 l0.length c0, .int .i64 a1] w fun e w' => e = .returned (.tuple #[.int .i64 r1, .int .i64 r2, .bool r3]) ∧ Below w.heap.size w w' := by
  have hu94 := Try.underlying94
  have HR0 := Aside0.mk hr0
  have HC0 := Aside0.mk hc0
  clear hr0 hc0
  have HB := Aside0.mk (Below.refl w.heap.size w)
  have H : ((spring_Room.f k l0 a1).bind fun t201 => (if t201 = true then ((spring_find.f k l0 a1).bind fun bt202 => (some (bt202.1, bt202.2, true))) else (some (0, 0, false)))) = some (r1, r2, r3) := h
  clear h
  replace H := Option.bind_eq_some_iff.mp H
  obtain ⟨t201, A30, H⟩ := H
  try dsimp only at H
  have A3 := Aside0.mk A30
  clear A30
  by_cases c4 : t201 = true
  · subst c4
    rw [if_pos rfl] at H
    replace H := Option.bind_eq_some_iff.mp H
    obtain ⟨⟨t202, t203⟩, A50, H⟩ := H
    try dsimp only at H
    have A5 := Aside0.mk A50
    clear A50
    simp only [Option.some.injEq, Prod.mk.injEq] at H
    obtain ⟨rfl, rfl, rfl⟩ := H
    go_enter Try.func57, Try.ntmps57
    go_wp2_with (first | (go_at_call 24; (with_reducible refine (spring_Room.calls k _ _ l0 a1 true _ ?side1 ?side2 A3.out).mono ?_); (case side1 => repeat (first | exact HR0.out | (with_reducible refine Kd.C_alloc ?_ _) | (with_reducible refine Kd.C_drewN ?_ _) | (with_reducible refine Kd.C_drew ?_))); (case side2 => exact HC0.out); rintro e w6 ⟨rfl, hb⟩; have n0_ := bs HB hb; clear HB; have HB := n0_; clear n0_; (try clear hb); (try clear hb2); (try clear hk); (try clear hi)) | (go_at_call 82; (with_reducible refine (spring_find.calls k _ _ l0 a1 t202 t203 _ ?side1 ?side2 A5.out).mono ?_); (case side1 => repeat (first | exact (Kd.C_below HR0.out HB.out) | (with_reducible refine Kd.C_alloc ?_ _) | (with_reducible refine Kd.C_drewN ?_ _) | (with_reducible refine Kd.C_drew ?_))); (case side2 => exact HC0.out); rintro e w7 ⟨rfl, hb⟩; have n0_ := bs HB hb; clear HB; have HB := n0_; clear n0_; (try clear hb); (try clear hb2); (try clear hk); (try clear hi)) | ((with_reducible refine gate_dst (N := 7) rfl ?_); refine box_event ?hg (N := 7) ?hd (cs := #[.int .i64 0, .int .i64 0]) (t := 94) ?hr ?_; (case hd => rfl); (case hg => rfl); (case hr => first | (go_simp; done) | (go_simp; rfl)); intro gb204 hg w8 hbox hb; have n0_ := bs HB hb; have n1_ := Aside0.mk (hbox); have n2_ := bz HB hg; have n3_ := bz HB hg; clear HB; have HB := n0_; have BK204 := n1_; have GW204 := n2_; have GE204 := n3_; clear n0_ n1_ n2_ n3_; clear hb hbox hg; obtain ⟨hcz9_0, hcz9_1⟩ := cc2 BK204; obtain ⟨hfz9_0, hfz9_1⟩ := cf2 BK204))
    repeat (go_quiet (first | (go_at_call 24; (with_reducible refine (spring_Room.calls k _ _ l0 a1 true _ ?side1 ?side2 A3.out).mono ?_); (case side1 => repeat (first | exact HR0.out | (with_reducible refine Kd.C_alloc ?_ _) | (with_reducible refine Kd.C_drewN ?_ _) | (with_reducible refine Kd.C_drew ?_))); (case side2 => exact HC0.out); rintro e w6 ⟨rfl, hb⟩; have n0_ := bs HB hb; clear HB; have HB := n0_; clear n0_; (try clear hb); (try clear hb2); (try clear hk); (try clear hi)) | (go_at_call 82; (with_reducible refine (spring_find.calls k _ _ l0 a1 t202 t203 _ ?side1 ?side2 A5.out).mono ?_); (case side1 => repeat (first | exact (Kd.C_below HR0.out HB.out) | (with_reducible refine Kd.C_alloc ?_ _) | (with_reducible refine Kd.C_drewN ?_ _) | (with_reducible refine Kd.C_drew ?_))); (case side2 => exact HC0.out); rintro e w7 ⟨rfl, hb⟩; have n0_ := bs HB hb; clear HB; have HB := n0_; clear n0_; (try clear hb); (try clear hb2); (try clear hk); (try clear hi)) | ((with_reducible refine gate_dst (N := 7) rfl ?_); refine box_event ?hg (N := 7) ?hd (cs := #[.int .i64 0, .int .i64 0]) (t := 94) ?hr ?_; (case hd => rfl); (case hg => rfl); (case hr => first | (go_simp; done) | (go_simp; rfl)); intro gb204 hg w8 hbox hb; have n0_ := bs HB hb; have n1_ := Aside0.mk (hbox); have n2_ := bz HB hg; have n3_ := bz HB hg; clear HB; have HB := n0_; have BK204 := n1_; have GW204 := n2_; have GE204 := n3_; clear n0_ n1_ n2_ n3_; clear hb hbox hg; obtain ⟨hcz9_0, hcz9_1⟩ := cc2 BK204; obtain ⟨hfz9_0, hfz9_1⟩ := cf2 BK204)); try go_wp2_with (first | (go_at_call 24; (with_reducible refine (spring_Room.calls k _ _ l0 a1 true _ ?side1 ?side2 A3.out).mono ?_); (case side1 => repeat (first | exact HR0.out | (with_reducible refine Kd.C_alloc ?_ _) | (with_reducible refine Kd.C_drewN ?_ _) | (with_reducible refine Kd.C_drew ?_))); (case side2 => exact HC0.out); rintro e w6 ⟨rfl, hb⟩; have n0_ := bs HB hb; clear HB; have HB := n0_; clear n0_; (try clear hb); (try clear hb2); (try clear hk); (try clear hi)) | (go_at_call 82; (with_reducible refine (spring_find.calls k _ _ l0 a1 t202 t203 _ ?side1 ?side2 A5.out).mono ?_); (case side1 => repeat (first | exact (Kd.C_below HR0.out HB.out) | (with_reducible refine Kd.C_alloc ?_ _) | (with_reducible refine Kd.C_drewN ?_ _) | (with_reducible refine Kd.C_drew ?_))); (case side2 => exact HC0.out); rintro e w7 ⟨rfl, hb⟩; have n0_ := bs HB hb; clear HB; have HB := n0_; clear n0_; (try clear hb); (try clear hb2); (try clear hk); (try clear hi)) | ((with_reducible refine gate_dst (N := 7) rfl ?_); refine box_event ?hg (N := 7) ?hd (cs := #[.int .i64 0, .int .i64 0]) (t := 94) ?hr ?_; (case hd => rfl); (case hg => rfl); (case hr => first | (go_simp; done) | (go_simp; rfl)); intro gb204 hg w8 hbox hb; have n0_ := bs HB hb; have n1_ := Aside0.mk (hbox); have n2_ := bz HB hg; have n3_ := bz HB hg; clear HB; have HB := n0_; have BK204 := n1_; have GW204 := n2_; have GE204 := n3_; clear n0_ n1_ n2_ n3_; clear hb hbox hg; (try clear hcz9_0 hcz9_1 hfz9_0 hfz9_1); obtain ⟨hcz9_0, hcz9_1⟩ := cc2 BK204; obtain ⟨hfz9_0, hfz9_1⟩ := cf2 BK204)))
    go_ret3
    exact ⟨by first | rfl | (simp [errW_none, errW_some] <;> rfl) | (simp [*, errW_none, errW_some] <;> rfl) | (exfalso; contradiction), by repeat (first | (with_reducible first | exact HB.out | apply below_alloc | apply pw_below_drewN | apply below_drew1 | refine below_set ?_ GE204.out) | exact HB.out)⟩
  · replace c4 := Bool.eq_false_iff.mpr c4
    subst c4
    rw [if_neg (show ¬ (false = true) by decide)] at H
    simp only [Option.some.injEq, Prod.mk.injEq] at H
    obtain ⟨rfl, rfl, rfl⟩ := H
    go_enter Try.func57, Try.ntmps57
    go_wp2_with (first | (go_at_call 24; (with_reducible refine (spring_Room.calls k _ _ l0 a1 false _ ?side1 ?side2 A3.out).mono ?_); (case side1 => repeat (first | exact HR0.out | (with_reducible refine Kd.C_alloc ?_ _) | (with_reducible refine Kd.C_drewN ?_ _) | (with_reducible refine Kd.C_drew ?_))); (case side2 => exact HC0.out); rintro e w10 ⟨rfl, hb⟩; have n0_ := bs HB hb; clear HB; have HB := n0_; clear n0_; (try clear hb); (try clear hb2); (try clear hk); (try clear hi)))
    repeat (go_quiet (first | (go_at_call 24; (with_reducible refine (spring_Room.calls k _ _ l0 a1 false _ ?side1 ?side2 A3.out).mono ?_); (case side1 => repeat (first | exact HR0.out | (with_reducible refine Kd.C_alloc ?_ _) | (with_reducible refine Kd.C_drewN ?_ _) | (with_reducible refine Kd.C_drew ?_))); (case side2 => exact HC0.out); rintro e w10 ⟨rfl, hb⟩; have n0_ := bs HB hb; clear HB; have HB := n0_; clear n0_; (try clear hb); (try clear hb2); (try clear hk); (try clear hi))); try go_wp2_with (first | (go_at_call 24; (with_reducible refine (spring_Room.calls k _ _ l0 a1 false _ ?side1 ?side2 A3.out).mono ?_); (case side1 => repeat (first | exact HR0.out | (with_reducible refine Kd.C_alloc ?_ _) | (with_reducible refine Kd.C_drewN ?_ _) | (with_reducible refine Kd.C_drew ?_))); (case side2 => exact HC0.out); rintro e w10 ⟨rfl, hb⟩; have n0_ := bs HB hb; clear HB; have HB := n0_; clear n0_; (try clear hb); (try clear hb2); (try clear hk); (try clear hi))))
    go_ret3
    exact ⟨by first | rfl | (simp [errW_none, errW_some] <;> rfl) | (simp [*, errW_none, errW_some] <;> rfl) | (exfalso; contradiction), by repeat (first | (with_reducible first | exact HB.out | apply below_alloc | apply pw_below_drewN | apply below_drew1) | exact HB.out)⟩

/-! ### spring_Press_1: function 58 -/
def spring_Press_1.f (a b : Int) (a0_0 : Int) (a0_1 : Int) (a0_2 : Int) : Option Int := (frac_Ceil.f (wrap64 (a * a0_2)) b).bind fun bt => (spring_least.f a0_0 a0_1 a0_2).bind fun t => some (mx t (wrap64 (a0_0 - bt.1)))
theorem spring_Press_1.ca {W : World} {b o : Nat} {ob : Obj} {v : Value} (h : W.cell? ⟨b, o, none⟩ = some v) : (W.alloc ob).cell? ⟨b, o, none⟩ = some v := (World.cell?_alloc_some W ⟨b, o, none⟩ ob (by rw [h]; rfl)).trans h
theorem spring_Press_1.cd {W : World} {b o : Nat} {v : Value} (h : W.cell? ⟨b, o, none⟩ = some v) : W.drew.cell? ⟨b, o, none⟩ = some v := h
theorem spring_Press_1.cdN {W : World} {b o m : Nat} {v : Value} (h : W.cell? ⟨b, o, none⟩ = some v) : (W.drewN m).cell? ⟨b, o, none⟩ = some v := h
set_option maxHeartbeats 8000000 in
set_option maxRecDepth 100000 in
theorem spring_Press_1.calls (a b : Int) (a0_0 a0_1 a0_2 : Int) (pa pb : Nat) (r : Int) (w : World) (ha : w.cell? ⟨pa, 0, none⟩ = some (.int .i64 a)) (hb : w.cell? ⟨pb, 0, none⟩ = some (.int .i64 b)) (h : spring_Press_1.f a b a0_0 a0_1 a0_2 = some r) :
    Calls Try.prog 58 #[.agg #[.int .i64 a0_0, .int .i64 a0_1, .int .i64 a0_2], .pointer (some ⟨pa, 0, none⟩), .pointer (some ⟨pb, 0, none⟩)] w fun e w' => e = .returned (.int .i64 r) ∧ Below w.heap.size w w' := by
  have hu33 := Try.underlying53
  unfold spring_Press_1.f at h
  obtain ⟨⟨q1, qb⟩, hq, h⟩ := Option.bind_eq_some_iff.mp h
  obtain ⟨t, ht, h⟩ := Option.bind_eq_some_iff.mp h
  obtain rfl := Option.some.inj h
  have A1 := Aside0.mk hq
  have A2 := Aside0.mk ht
  have ha2 := spring_Press_1.ca (ob := .cells #[.int .i64 a0_0, .int .i64 a0_1, .int .i64 a0_2] 53) ha
  have hb2 := spring_Press_1.ca (ob := .cells #[.int .i64 a0_0, .int .i64 a0_1, .int .i64 a0_2] 53) hb
  have BX := Aside0.mk (blk_new w (.cells #[.int .i64 a0_0, .int .i64 a0_1, .int .i64 a0_2] 53))
  clear h hq ht ha hb
  go_enter Try.func58, Try.ntmps58
  go_wp2_with (first | (go_at_call 40; (with_reducible refine (frac_Ceil.calls (wrap64 (a * a0_2)) b q1 qb _ A1.out).mono ?_); rintro e w1 ⟨rfl, hb⟩; have HB1 := Aside0.mk (below_step (below_alloc (Below.refl w.heap.size w) _) hb); have BX1 := Aside0.mk (blk_below BX.out hb); clear hb))
  have z0 : w1.cell? ⟨w.heap.size, 0, none⟩ = some (.int .i64 a0_0) := (blk_cell BX1.out 0).trans rfl
  have z1 : w1.cell? ⟨w.heap.size, 1, none⟩ = some (.int .i64 a0_1) := (blk_cell BX1.out 1).trans rfl
  have z2 : w1.cell? ⟨w.heap.size, 2, none⟩ = some (.int .i64 a0_2) := (blk_cell BX1.out 2).trans rfl
  have l1 : w.heap.size < w1.heap.size := blk_lt BX1.out
  clear ha2 hb2
  go_region_held3 (fun w' => w'.cell? ⟨w.heap.size, 0, none⟩ = some (.int .i64 a0_0) ∧ w'.cell? ⟨w.heap.size, 1, none⟩ = some (.int .i64 a0_1) ∧ w'.cell? ⟨w.heap.size, 2, none⟩ = some (.int .i64 a0_2)) ((refine ⟨?_, ?_, ?_⟩ <;> (first | ((repeat (first | (with_reducible assumption) | (with_reducible refine spring_Press_1.ca ?_) | (with_reducible refine spring_Press_1.cd ?_) | (with_reducible refine spring_Press_1.cdN ?_))); done) | (go_keep; done) | (simp [*]; done))))
    (first | (go_at_call 52; (with_reducible refine (spring_least.calls a0_0 a0_1 a0_2 t _ A2.out).mono ?_); rintro e w' ⟨rfl, hb⟩; have qq0 : w'.cell? ⟨w.heap.size, 0, none⟩ = some (.int .i64 a0_0) := (by rw [hb.cell (by first | omega | (simp; done) | (simp; omega))]; first | assumption | (simp [*]; done)); have qq1 : w'.cell? ⟨w.heap.size, 1, none⟩ = some (.int .i64 a0_1) := (by rw [hb.cell (by first | omega | (simp; done) | (simp; omega))]; first | assumption | (simp [*]; done)); have qq2 : w'.cell? ⟨w.heap.size, 2, none⟩ = some (.int .i64 a0_2) := (by rw [hb.cell (by first | omega | (simp; done) | (simp; omega))]; first | assumption | (simp [*]; done))))
  have hmx : (if t < IntKind.i64.wrap (a0_0 - q1) then IntKind.i64.wrap (a0_0 - q1) else t) = mx t (wrap64 (a0_0 - q1)) := by
    have e : IntKind.i64.wrap (a0_0 - q1) = wrap64 (a0_0 - q1) := by
      simp only [wrap64, IntKind.wrap, IntKind.bits, IntKind.signed]
      simp
      split <;> omega
    rw [e]
    rfl
  rw [hmx]
  have HB2 := Aside0.mk (below_step (below_drew1 HB1.out) hb)
  clear hb qq0 qq1 qq2 z0 z1 z2
  go_wp2
  go_ret
  exact ⟨rfl, HB2.out⟩

end Go.Proofs.Ytaejikbfnlihmaa.P
