/- Periods of units, a task's periods, the ends of its jobs. No condition but each lemma's own. -/
import Derived.Test.YtcgplkcjanakcaaPx3
import Derived.Test.YtcgplkcjanakcaaPx4
import Derived.Test.YtcgplkcjanakcaaPx5
import Derived.Test.YtcgplkcjanakcaaLibUnitAt
namespace Go.Proofs.Ytcgplkcjanakcaa.Pure
open Go.RowKit Go.Proofs.Ytcgplkcjanakcaa.P Go.Proofs.YtcgplkcjanakcaaW.PrintWords Go.Proofs.YtcgplkcjanakcaaW.PrintLast Go.Proofs.YtcgplkcjanakcaaW.PrintMore
set_option linter.unusedVariables false
set_option linter.unusedSimpArgs false
theorem awake08 {f : Nat} (hf : 20 ≤ f) : fuseelaw08_awake.f f = some true :=
  at_rounds fuseelaw08_awake.mono hf (by decide +kernel : fuseelaw08_awake.f 20 = some true)
/-- The least number of a period at which a task's units are no more than u. -/
def leastP (C M K u : Int) : Int := up (C * M * 1048576) (u * K)
theorem at_le {C T X M K E q u : Int} (h : okS C T X M K E) (h1 : T ≤ q) (h2 : q ≤ X) (hu : 1 ≤ u) : unitsOf C M K q ≤ u ↔ leastP C M K u ≤ q := by
  obtain ⟨m1, m2, m3, m4, m5⟩ := units_nums h h1 h2
  have hk := h.2.2.2.2.2.1
  have huk : 1 * 1 ≤ u * K := Int.mul_le_mul hu (by omega) (by omega) (by omega)
  have e : u * (K * q) = q * (u * K) := by rw [← Int.mul_assoc, Int.mul_comm]
  have s1 := up_spec (x := C * M * 1048576) m3
  have s2 := up_spec (x := C * M * 1048576) (k := u * K) (by omega)
  unfold unitsOf leastP
  constructor
  · intro hle
    refine up_le (by omega) ?_
    rw [← e]
    exact Int.le_trans s1.2 (Int.mul_le_mul_of_nonneg_right hle (by omega))
  · intro hle
    refine up_le m3 ?_
    rw [e]
    exact Int.le_trans s2.2 (Int.mul_le_mul_of_nonneg_right hle (by omega))
theorem leastP_num {C T X M K E u : Int} (h : okS C T X M K E) (hu : 1 ≤ u) (hu2 : u ≤ 1048576) : 1 ≤ u * K ∧ u * K ≤ 6291456 ∧ 1 ≤ C * M ∧ C * M ≤ 36 ∧ 1 ≤ leastP C M K u ∧ leastP C M K u ≤ 37748736 := by
  obtain ⟨m1, m2, _⟩ := units_nums h (Int.le_refl T) h.2.2.2.1
  have hk := h.2.2.2.2.2.1
  have huk : 1 * 1 ≤ u * K := Int.mul_le_mul hu (by omega) (by omega) (by omega)
  have huk2 := mulb (a := u) (b := K) (A := 1048576) (B := 6) (by omega) hu2 (by omega) hk.2.2
  refine ⟨by omega, by omega, m1, m2, le_up (by omega) (by omega), up_le (by omega) ?_⟩
  have : 37748736 * 1 ≤ 37748736 * (u * K) := Int.mul_le_mul_of_nonneg_left (by omega) (by omega)
  omega
theorem pof_bad {C T X M K E u : Int} (h : ¬ (okS C T X M K E ∧ 1 ≤ u ∧ u ≤ 1048576)) (f : Nat) : period_Of.f (f + 1) C T X M K E u = some (0, false) := by
  unfold period_Of.f
  by_cases h0 : okS C T X M K E
  · rw [may_ok h0]
    simp only [Option.bind_some, if_true]
    by_cases h1 : u < 1
    · rw [if_pos h1, period_Of.j0, if_pos rfl]
    · rw [if_neg h1, decide_eq_true (show u > 1048576 by refine Int.not_le.1 fun h2 => h ⟨h0, by omega, h2⟩), period_Of.j0, if_pos rfl]
  · rw [may_no h0]
    simp only [Option.bind_some]
    rw [if_neg (by decide), period_Of.j0, if_pos rfl]
theorem pof_eq {C T X M K E u : Int} (h : okS C T X M K E) (hu : 1 ≤ u) (hu2 : u ≤ 1048576) (f : Nat) :
    period_Of.f (f + 1) C T X M K E u = if leastP C M K u ≤ X then some (max (leastP C M K u) T, true) else some (0, false) := by
  obtain ⟨k1, k2, m1, m2, l1, l2⟩ := leastP_num h hu hu2
  unfold period_Of.f
  rw [may_ok h]
  simp only [Option.bind_some, if_true]
  rw [if_neg (by omega), decide_eq_false (by omega), period_Of.j0, if_neg (by decide), w64 (x := C * M) (by omega) (by omega), w64 (x := C * M * 1048576) (by omega) (by omega), w64 (x := u * K) (by omega) (by omega), ceil_up (by omega) (by omega) k1 (by omega)]
  simp only [Option.bind_some]
  have e : mx (up (C * M * 1048576) (u * K)) T = max (leastP C M K u) T := by unfold mx leastP; split <;> omega
  have hx := h.2.2.2.1
  rw [e]
  by_cases c : leastP C M K u ≤ X
  · rw [if_pos c, if_neg (by omega), at_ok h (by omega) (by omega)]
    simp only [Option.bind_some]
    have := (at_le h (q := max (leastP C M K u) T) (by omega) (by omega) hu).2 (by omega)
    rw [if_neg (by omega)]
  · rw [if_neg c, if_pos (by omega)]
theorem list_ok {a b c : Int} (h1 : 1 ≤ b) (h2 : 0 ≤ a) (h3 : a ≤ 2199023255552) (h4 : b ≤ 2199023255552) (h5 : c ≤ 2199023255552) (h6 : (c - a) / b + 1 ≤ 10000) : period_list.f a b c = some (period_list.nums a b (period_list.num a b c)) := by
  unfold period_list.f
  rw [if_pos ⟨h1, h2, h3, h4, h5, by unfold period_list.num; omega⟩]
theorem all_ok {C T X M K E : Int} (h : okS C T X M K E) : period_All.f C T X M K E = some (period_list.nums T 1 (X - T + 1).toNat) := by
  have ⟨a1, a2, a3, a4, a5, _⟩ := h
  unfold period_All.f
  rw [may_ok h]
  simp only [Option.bind_some, if_true]
  rw [list_ok (by omega) (by omega) (by omega) (by omega) (by omega) (by omega)]
  simp only [Option.bind_some, period_list.num, Int.ediv_one]
theorem all_no {C T X M K E : Int} (h : ¬ okS C T X M K E) : period_All.f C T X M K E = some [] := by
  unfold period_All.f
  rw [may_no h]; rfl
/-- What the ends of jobs are asked of. -/
def okE (C T X M K E p fr tt : Int) : Prop := okS C T X M K E ∧ T ≤ p ∧ p ≤ X ∧ 0 ≤ fr ∧ fr ≤ tt ∧ tt ≤ 1099511627776 ∧ tt - fr ≤ 5000
theorem ends_num {p fr tt : Int} (hp : 1 ≤ p) : ((tt - (fr + p)) / p + 1) = (tt - fr) / p := by
  have : tt - fr = (tt - (fr + p)) + 1 * p := by omega
  rw [this, Int.add_mul_ediv_right _ _ (by omega)]
theorem ends_ok {C T X M K E p fr tt : Int} (h : okE C T X M K E p fr tt) : period_Ends.f C T X M K E p fr tt = some (period_list.nums (fr + p) p ((tt - fr) / p).toNat) := by
  obtain ⟨hs, h1, h2, h3, h4, h5, h6⟩ := h
  have ⟨a1, a2, a3, a4, a5, _⟩ := hs
  have us := unitsOf_spec hs h1 h2
  have hd : (tt - fr) / p ≤ tt - fr := Int.ediv_le_self _ (by omega)
  unfold period_Ends.f
  rw [at_ok hs h1 h2]
  simp only [Option.bind_some]
  rw [if_neg (by omega), if_neg (by omega), if_neg (by omega), if_neg (by omega), w64 (x := tt - fr) (by omega) (by omega), if_neg (by omega), w64 (x := fr + p) (by omega) (by omega),
    list_ok (by omega) (by omega) (by omega) (by omega) (by omega) (by rw [ends_num (by omega)]; omega)]
  simp only [Option.bind_some, period_list.num]
  rw [ends_num (by omega)]
theorem ends_no {C T X M K E p fr tt : Int} (h : ¬ okE C T X M K E p fr tt) : period_Ends.f C T X M K E p fr tt = some [] := by
  unfold period_Ends.f
  by_cases h0 : okS C T X M K E ∧ T ≤ p ∧ p ≤ X
  · have us := unitsOf_spec h0.1 h0.2.1 h0.2.2
    rw [at_ok h0.1 h0.2.1 h0.2.2]
    simp only [Option.bind_some]
    rw [if_neg (by omega)]
    by_cases c1 : fr < 0
    · rw [if_pos c1]
    rw [if_neg c1]
    by_cases c2 : fr > tt
    · rw [if_pos c2]
    rw [if_neg c2]
    by_cases c3 : tt > 1099511627776
    · rw [if_pos c3]
    rw [if_neg c3, w64 (x := tt - fr) (by omega) (by omega), if_pos]
    refine Int.not_le.1 fun q => h ⟨h0.1, h0.2.1, h0.2.2, by omega, by omega, by omega, q⟩
  · rw [at_no h0]
    rfl
theorem rd_nums {a b : Int} {m : Nat} {i : Nat} (h : i < m) : rd (period_list.nums a b m) (i : Int) = a + (i : Int) * b := by
  unfold period_list.nums rd
  simp [List.getD_eq_getElem?_getD, h]
theorem nums_length (a b : Int) (m : Nat) : (period_list.nums a b m).length = m := by unfold period_list.nums; simp
theorem nums_add (a b : Int) (m n : Nat) : period_list.nums a b m ++ period_list.nums (a + (m : Int) * b) b n = period_list.nums a b (m + n) := by
  unfold period_list.nums
  rw [List.range_add, List.map_append, List.map_map]
  congr 1
  apply List.map_congr_left
  intro i _
  simp only [Function.comp]
  rw [Int.natCast_add, Int.add_mul]
  omega
theorem ints_eq (l : List Int) (hl : l.length ≤ 100000) {f : Nat} (hf : l.length < f) : fuseeref06_Ints.f f l l = some true := by
  unfold fuseeref06_Ints.f
  rw [if_pos rfl]
  have loop : ∀ (d i f : Nat), i + d = l.length → d < f → fuseeref06_Ints.l0 f l l (i : Int) = some true := by
    intro d
    induction d with
    | zero =>
      intro i f hd hf
      obtain ⟨f, rfl⟩ : ∃ x, f = x + 1 := ⟨f - 1, by omega⟩
      rw [fuseeref06_Ints.l0, if_neg (by omega)]
    | succ d ih =>
      intro i f hd hf
      obtain ⟨f, rfl⟩ : ∃ x, f = x + 1 := ⟨f - 1, by omega⟩
      rw [fuseeref06_Ints.l0, if_pos (by omega), if_pos (by omega), if_pos (by omega), if_pos rfl, w64 (by omega) (by omega), show ((i : Int) + 1) = ((i + 1 : Nat) : Int) by omega]
      exact ih (i + 1) f (by omega) (by omega)
  exact loop l.length 0 f (by omega) hf
end Go.Proofs.Ytcgplkcjanakcaa.Pure
