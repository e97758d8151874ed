/- What tasks at their periods must have done, at most, in a stretch of time: what the program's functions come to. No condition but each lemma's own. -/
import Derived.Test.YtngledpkoeioiaaPx2
import Derived.Test.YtngledpkoeioiaaPx3
import Derived.Test.YtngledpkoeioiaaPx4
import Derived.Test.YtngledpkoeioiaaPx5
import Derived.Test.YtngledpkoeioiaaLibEnds
import Derived.Test.YtngledpkoeioiaaLibSum
namespace Go.Proofs.Ytngledpkoeioiaa.Pure
open Go.RowKit Go.Proofs.Ytngledpkoeioiaa.P Go.Proofs.YtngledpkoeioiaaW.PrintWords Go.Proofs.YtngledpkoeioiaaW.PrintLast Go.Proofs.YtngledpkoeioiaaW.PrintMore
set_option linter.unusedVariables false
set_option linter.unusedSimpArgs false
abbrev Fix := S26
theorem rd_fix {l : List Fix} {i : Nat} (h : i < l.length) : rd_T26 l (i : Int) = l[i] := by
  unfold rd_T26
  simp [List.getD_eq_getElem?_getD, List.getElem?_eq_getElem h]
/-- A task, at its period, that may be. -/
def okF (x : Fix) : Prop := okS x.f0.f0 x.f0.f1 x.f0.f2 x.f0.f3 x.f0.f4 x.f0.f5 ∧ x.f0.f1 ≤ x.f1 ∧ x.f1 ≤ x.f0.f2
instance (x : Fix) : Decidable (okF x) := by unfold okF okS; infer_instance
def uF (x : Fix) : Int := unitsOf x.f0.f0 x.f0.f3 x.f0.f4 x.f1
theorem okF_nums {x : Fix} (h : okF x) : 1 ≤ x.f0.f0 ∧ x.f0.f0 ≤ 6 ∧ 1 ≤ x.f1 ∧ x.f1 ≤ 48 ∧ 1 ≤ x.f0.f3 ∧ x.f0.f3 ≤ x.f0.f4 ∧ x.f0.f4 ≤ 6 := by
  obtain ⟨⟨a1, a2, a3, a4, a5, ⟨b1, b2, b3⟩, c⟩, d1, d2⟩ := h
  omega
theorem may_fix (x : Fix) : demand_may.f x.f0.f0 x.f0.f1 x.f0.f2 x.f0.f3 x.f0.f4 x.f0.f5 x.f1 = some (decide (okF x)) := by
  unfold demand_may.f
  by_cases h : okF x
  · have u := unitsOf_spec h.1 h.2.1 h.2.2
    rw [at_ok h.1 h.2.1 h.2.2, decide_eq_true h, Option.bind_some, decide_eq_true (by omega)]
  · rw [at_no h, decide_eq_false h]
    rfl
theorem at_fix (x : Fix) : units_At.f x.f0.f0 x.f0.f1 x.f0.f2 x.f0.f3 x.f0.f4 x.f0.f5 x.f1 = some (if okF x then uF x else 0) := by
  by_cases h : okF x
  · rw [if_pos h]; exact at_ok h.1 h.2.1 h.2.2
  · rw [if_neg h]; exact at_no h
theorem most_ok {m k q : Int} (h1 : 1 ≤ m) (h2 : m ≤ k) (h3 : k ≤ 6) (h4 : 0 ≤ q) (h5 : q ≤ 1099511627776) : pat_Most.f m k q = some (up (q * m) k) := by
  have hq := mulb (a := q) (b := m) (A := 1099511627776) (B := 6) h4 h5 (by omega) (by omega)
  unfold pat_Most.f pat_May.f pat_in.f
  rw [if_pos h1, if_pos h2, decide_eq_true h3]
  simp only [Option.bind_some, if_true]
  rw [if_pos h4, decide_eq_true h5]
  simp only [Option.bind_some, if_true]
  rw [w64 (by omega) (by omega), ceil_up (by omega) (by omega) (by omega) (by omega)]
  rfl
/-- What a task must have done in a stretch of n. -/
def dem (x : Fix) (n : Int) : Int := x.f0.f0 * up (n / x.f1 * x.f0.f3) x.f0.f4
def ofF (x : Fix) (n : Int) : Int := if okF x ∧ 0 ≤ n ∧ n ≤ 1099511627776 then dem x n else 0
theorem dem_bound {x : Fix} (h : okF x) {n : Int} (hn : 0 ≤ n) : 0 ≤ dem x n ∧ dem x n ≤ 6 * n ∧ 0 ≤ n / x.f1 ∧ n / x.f1 ≤ n ∧ 0 ≤ up (n / x.f1 * x.f0.f3) x.f0.f4 ∧ up (n / x.f1 * x.f0.f3) x.f0.f4 ≤ n / x.f1 := by
  obtain ⟨a1, a2, a3, a4, a5, a6, a7⟩ := okF_nums h
  have q0 : 0 ≤ n / x.f1 := Int.ediv_nonneg hn (by omega)
  have q1 : n / x.f1 ≤ n := Int.ediv_le_self _ hn
  have q2 : n / x.f1 * x.f0.f3 ≤ n / x.f1 * x.f0.f4 := Int.mul_le_mul_of_nonneg_left a6 q0
  have u1 : up (n / x.f1 * x.f0.f3) x.f0.f4 ≤ n / x.f1 := up_le (by omega) q2
  have u0 : 0 ≤ up (n / x.f1 * x.f0.f3) x.f0.f4 := le_up (by omega) (by have := Int.mul_nonneg q0 (show 0 ≤ x.f0.f3 by omega); omega)
  have m := mulb (a := x.f0.f0) (b := up (n / x.f1 * x.f0.f3) x.f0.f4) (A := 6) (B := n) (by omega) a2 u0 (by omega)
  exact ⟨m.1, m.2, q0, q1, u0, u1⟩
theorem ofF_bound (x : Fix) (n : Int) : 0 ≤ ofF x n ∧ ofF x n ≤ 6597069766656 := by
  unfold ofF
  split
  · rename_i h
    have := dem_bound h.1 h.2.1
    omega
  · omega
theorem of_fix (x : Fix) (n : Int) : demand_Of.f x.f0.f0 x.f0.f1 x.f0.f2 x.f0.f3 x.f0.f4 x.f0.f5 x.f1 n = some (ofF x n) := by
  unfold demand_Of.f
  rw [may_fix, Option.bind_some]
  by_cases h : okF x
  · obtain ⟨a1, a2, a3, a4, a5, a6, a7⟩ := okF_nums h
    rw [decide_eq_true h, if_pos rfl]
    by_cases c1 : n < 0
    · rw [if_pos c1, ofF, if_neg (by omega)]
    rw [if_neg c1]
    by_cases c2 : n > 1099511627776
    · rw [if_pos c2, ofF, if_neg (by omega)]
    have b := dem_bound h (n := n) (by omega)
    rw [if_neg c2, if_neg (by omega), Int.tdiv_eq_ediv_of_nonneg (by omega), w64 (x := n / x.f1) (by omega) (by omega), most_ok a5 a6 a7 b.2.2.1 (by omega), Option.bind_some, ofF, if_pos ⟨h, by omega, by omega⟩]
    congr 1
    exact w64 (by have := b.1; unfold dem at this; omega) (by have := b.2.1; unfold dem at this; omega)
  · rw [decide_eq_false h, if_neg (by decide), ofF, if_neg (fun q => h q.1)]
def sumF (l : List Fix) (n : Int) : Int := (l.map (ofF · n)).sum
theorem sumF_nil (n : Int) : sumF [] n = 0 := rfl
theorem sumF_cons (x : Fix) (l : List Fix) (n : Int) : sumF (x :: l) n = ofF x n + sumF l n := by unfold sumF; rw [List.map_cons, List.sum_cons]
theorem sumF_append (l m : List Fix) (n : Int) : sumF (l ++ m) n = sumF l n + sumF m n := by unfold sumF; rw [List.map_append, sum_append]
theorem sumF_bound : ∀ (l : List Fix) (n : Int), 0 ≤ sumF l n ∧ sumF l n ≤ l.length * 6597069766656
  | [], n => by simp [sumF]
  | x :: t, n => by
    have := sumF_bound t n
    have := ofF_bound x n
    rw [sumF_cons, List.length_cons]
    omega
def allF (l : List Fix) (n : Int) : Int := if l.length ≤ 1000 then sumF l n else 0
theorem all_eq (l : List Fix) (n : Int) {k : Nat} (hk : l.length < k) : demand_All.f k l n = some (allF l n) := by
  unfold demand_All.f allF
  by_cases c : l.length ≤ 1000
  · rw [if_neg (by omega), if_pos c]
    have loop : ∀ (d i k : Nat) (s : Int), i + d = l.length → d < k → 0 ≤ s → s ≤ i * 6597069766656 → demand_All.l0 k n s l (l.length : Int) (i : Int) = some (s + sumF (l.drop i) n) := by
      intro d
      induction d with
      | zero =>
        intro i k s hi hk h0 h1
        obtain ⟨k, rfl⟩ : ∃ x, k = x + 1 := ⟨k - 1, by omega⟩
        rw [demand_All.l0, if_neg (by omega), List.drop_of_length_le (by omega), sumF_nil, Int.add_zero]
      | succ d ih =>
        intro i k s hi hk h0 h1
        obtain ⟨k, rfl⟩ : ∃ x, k = x + 1 := ⟨k - 1, by omega⟩
        have hlt : i < l.length := by omega
        have b := ofF_bound l[i] n
        rw [demand_All.l0, if_pos (by omega), if_pos (by omega), if_pos (by omega), rd_fix hlt, of_fix, Option.bind_some, w64 (x := s + ofF l[i] n) (by omega) (by omega), w64 (x := (i : Int) + 1) (by omega) (by omega),
          show ((i : Int) + 1) = ((i + 1 : Nat) : Int) by omega, ih (i + 1) k _ (by omega) (by omega) (by omega) (by omega), List.drop_eq_getElem_cons hlt, sumF_cons, Int.add_assoc]
    have := loop l.length 0 k 0 (by omega) hk (by omega) (by omega)
    rw [List.drop_zero, Int.zero_add] at this
    exact this
  · rw [if_pos (by omega), if_neg c]
/-- Tasks that may be. -/
def mayF (l : List Fix) : Prop := (∀ x ∈ l, okF x) ∧ l.length ≤ 4 ∧ (l.map uF).sum ≤ 983040
instance (l : List Fix) : Decidable (mayF l) := by unfold mayF; infer_instance
theorem may_list (l : List Fix) (hl : l.length < 17592186044416) {k : Nat} (hk : l.length < k) : demand_May.f k l = some (decide (mayF l)) := by
  unfold demand_May.f
  have loop : ∀ (d i k : Nat), i + d = l.length → d < k → (∀ x ∈ l.take i, okF x) → demand_May.l0 k l ((l.take i).map uF) l (l.length : Int) (i : Int) = some (decide (mayF l)) := by
    intro d
    induction d with
    | zero =>
      intro i k hi hk hall
      obtain ⟨k, rfl⟩ : ∃ x, k = x + 1 := ⟨k - 1, by omega⟩
      rw [List.take_of_length_le (by omega)] at hall ⊢
      rw [demand_May.l0, if_neg (by omega)]
      by_cases c : l.length ≤ 4
      · rw [if_pos (by omega), fits_ok ⟨by rw [List.length_map]; omega, ?_⟩, Option.bind_some]
        · congr 1
          rw [decide_eq_decide]
          exact ⟨fun h => ⟨hall, c, h⟩, fun h => h.2.2⟩
        · rw [List.any_eq_false]
          intro u hu
          obtain ⟨x, hx, rfl⟩ := List.mem_map.1 hu
          have o := hall x hx
          have := unitsOf_spec o.1 o.2.1 o.2.2
          rw [(bad_iff _).2 (by unfold uF; omega)]
          decide
      · rw [if_neg (by omega), decide_eq_false (fun q => c q.2.1)]
    | succ d ih =>
      intro i k hi hk hall
      obtain ⟨k, rfl⟩ : ∃ x, k = x + 1 := ⟨k - 1, by omega⟩
      have hlt : i < l.length := by omega
      rw [demand_May.l0, if_pos (by omega), if_pos (by omega), if_pos (by omega), rd_fix hlt, may_fix, Option.bind_some]
      by_cases o : okF l[i]
      · rw [decide_eq_true o, if_pos rfl, at_fix, if_pos o, Option.bind_some, if_pos (by rw [List.length_map, List.length_take]; omega), w64 (x := (i : Int) + 1) (by omega) (by omega), show ((i : Int) + 1) = ((i + 1 : Nat) : Int) by omega]
        have e : (l.take i).map uF ++ [uF l[i]] = (l.take (i + 1)).map uF := by rw [List.take_succ_eq_append_getElem hlt, List.map_append]; rfl
        rw [e]
        refine ih (i + 1) k (by omega) (by omega) fun x hx => ?_
        rw [List.take_succ_eq_append_getElem hlt] at hx
        rcases List.mem_append.1 hx with h | h
        · exact hall x h
        · rw [List.mem_singleton.1 h]; exact o
      · rw [decide_eq_false o, if_neg (by decide), decide_eq_false (fun q => o (q.1 _ (List.getElem_mem hlt)))]
  exact loop l.length 0 k (by omega) hk (by simp)
def sumC (l : List Fix) : Int := (l.map (·.f0.f0)).sum
theorem sumC_cons (x : Fix) (l : List Fix) : sumC (x :: l) = x.f0.f0 + sumC l := by unfold sumC; rw [List.map_cons, List.sum_cons]
theorem sumC_bound : ∀ {l : List Fix}, (∀ x ∈ l, okF x) → (l.length : Int) ≤ sumC l ∧ sumC l ≤ l.length * 6
  | [], _ => by simp [sumC]
  | x :: t, h => by
    have := sumC_bound (l := t) (fun y hy => h y (List.mem_cons_of_mem _ hy))
    have := okF_nums (h x (List.mem_cons_self ..))
    rw [sumC_cons, List.length_cons]
    omega
def horF (l : List Fix) : Int := if mayF l then 16 * sumC l else 0
theorem horF_bound (l : List Fix) : 0 ≤ horF l ∧ horF l ≤ 384 := by
  unfold horF
  split
  · rename_i h
    have := sumC_bound h.1
    have := h.2.1
    omega
  · omega
theorem hor_eq (l : List Fix) (hl : l.length < 17592186044416) {k : Nat} (hk : l.length < k) : demand_Horizon.f k l = some (horF l) := by
  unfold demand_Horizon.f horF
  rw [may_list l hl hk, Option.bind_some]
  by_cases h : mayF l
  · rw [decide_eq_true h, if_pos rfl, if_pos h]
    have sb := sumC_bound h.1
    have h4 := h.2.1
    have loop : ∀ (d i k : Nat) (s : Int), i + d = l.length → d < k → 0 ≤ s → s + sumC (l.drop i) = sumC l → demand_Horizon.l0 k s l (l.length : Int) (i : Int) = some (16 * sumC l) := by
      intro d
      induction d with
      | zero =>
        intro i k s hi hk h0 h1
        obtain ⟨k, rfl⟩ : ∃ x, k = x + 1 := ⟨k - 1, by omega⟩
        rw [List.drop_of_length_le (by omega)] at h1
        have e : s = sumC l := by rw [← h1]; simp [sumC]
        rw [demand_Horizon.l0, if_neg (by omega), e, w64 (x := sumC l * 1048576) (by omega) (by omega), ceil_up (by omega) (by omega) (by omega) (by omega), Option.bind_some, up_eq (n := 16 * sumC l) (by omega) (by omega) (by omega)]
      | succ d ih =>
        intro i k s hi hk h0 h1
        obtain ⟨k, rfl⟩ : ∃ x, k = x + 1 := ⟨k - 1, by omega⟩
        have hlt : i < l.length := by omega
        rw [List.drop_eq_getElem_cons hlt, sumC_cons] at h1
        have n := okF_nums (h.1 _ (List.getElem_mem hlt))
        have sd := sumC_bound (l := l.drop (i + 1)) (fun y hy => h.1 y (List.mem_of_mem_drop hy))
        rw [demand_Horizon.l0, if_pos (by omega), if_pos (by omega), if_pos (by omega), rd_fix hlt, w64 (x := s + l[i].f0.f0) (by omega) (by omega), w64 (x := (i : Int) + 1) (by omega) (by omega), show ((i : Int) + 1) = ((i + 1 : Nat) : Int) by omega]
        exact ih (i + 1) k _ (by omega) (by omega) (by omega) (by omega)
    exact loop l.length 0 k 0 (by omega) hk (by omega) (by rw [List.drop_zero, Int.zero_add])
  · rw [decide_eq_false h, if_neg (by decide), if_neg h]
/-- The last end of a job ahead of n. -/
def lastG (n s : Int) : List Fix → Int
  | [] => s
  | x :: t => lastG n (max s ((n - 1) / x.f1 * x.f1)) t
def lastF (l : List Fix) (n : Int) : Int := lastG n 0 l
theorem lastG_spec (n : Int) (hn : 1 ≤ n) : ∀ (l : List Fix) (s : Int), (∀ x ∈ l, okF x) → 0 ≤ s → s ≤ n - 1 → s ≤ lastG n s l ∧ lastG n s l ≤ n - 1 ∧ ∀ x ∈ l, (n - 1) / x.f1 * x.f1 ≤ lastG n s l
  | [], s, _, h0, h1 => by simp [lastG, h1]
  | x :: t, s, h, h0, h1 => by
    have o := okF_nums (h x (List.mem_cons_self ..))
    have d1 : (n - 1) / x.f1 * x.f1 ≤ n - 1 := Int.ediv_mul_le _ (by omega)
    have := lastG_spec n hn t (max s ((n - 1) / x.f1 * x.f1)) (fun y hy => h y (List.mem_cons_of_mem _ hy)) (by omega) (by omega)
    rw [lastG]
    refine ⟨by omega, this.2.1, fun y hy => ?_⟩
    rcases List.mem_cons.1 hy with rfl | hy
    · omega
    · exact this.2.2 y hy
theorem lastF_spec {l : List Fix} (h : ∀ x ∈ l, okF x) {n : Int} (hn : 1 ≤ n) : 0 ≤ lastF l n ∧ lastF l n ≤ n - 1 ∧ ∀ x ∈ l, (n - 1) / x.f1 * x.f1 ≤ lastF l n :=
  lastG_spec n hn l 0 h (by omega) (by omega)
theorem mx_max (a b : Int) : mx a b = max a b := by unfold mx; split <;> omega
theorem last_eq {l : List Fix} (h : ∀ x ∈ l, okF x) (hl : l.length ≤ 1000) {n : Int} (hn : 1 ≤ n) (hn2 : n ≤ 5001) {k : Nat} (hk : l.length < k) : demand_last.f k l n = some (lastF l n) := by
  unfold demand_last.f lastF
  have loop : ∀ (d i k : Nat) (s : Int), i + d = l.length → d < k → 0 ≤ s → s ≤ n - 1 → demand_last.l0 k n s l (l.length : Int) (i : Int) = some (lastG n s (l.drop i)) := by
    intro d
    induction d with
    | zero =>
      intro i k s hi hk h0 h1
      obtain ⟨k, rfl⟩ : ∃ x, k = x + 1 := ⟨k - 1, by omega⟩
      rw [demand_last.l0, if_neg (by omega), List.drop_of_length_le (by omega), lastG]
    | succ d ih =>
      intro i k s hi hk h0 h1
      obtain ⟨k, rfl⟩ : ∃ x, k = x + 1 := ⟨k - 1, by omega⟩
      have hlt : i < l.length := by omega
      have o := h _ (List.getElem_mem hlt)
      have nn := okF_nums o
      have d0 : 0 ≤ (n - 1) / l[i].f1 := Int.ediv_nonneg (by omega) (by omega)
      have d2 : (n - 1) / l[i].f1 ≤ n - 1 := Int.ediv_le_self _ (by omega)
      have d1 : (n - 1) / l[i].f1 * l[i].f1 ≤ n - 1 := Int.ediv_mul_le _ (by omega)
      have dn : 0 ≤ (n - 1) / l[i].f1 * l[i].f1 := Int.mul_nonneg d0 (by omega)
      rw [demand_last.l0, if_pos (by omega), if_pos (by omega), if_pos (by omega), rd_fix hlt, w64 (x := n - 1) (by omega) (by omega), ends_ok ⟨o.1, o.2.1, o.2.2, by omega, by omega, by omega, by omega⟩, Option.bind_some, nums_length, List.drop_eq_getElem_cons hlt, lastG,
        w64 (x := (i : Int) + 1) (by omega) (by omega), show ((i : Int) + 1) = ((i + 1 : Nat) : Int) by omega]
      obtain ⟨q, hq⟩ : ∃ q : Nat, (q : Int) = (n - 1) / l[i].f1 := ⟨((n - 1) / l[i].f1).toNat, by omega⟩
      rw [Int.sub_zero, ← hq, Int.toNat_natCast]
      by_cases c : (q : Int) > 0
      · rw [if_pos c, w64 (x := (q : Int) - 1) (by omega) (by omega), if_pos (by omega), if_pos (by omega), show (q : Int) - 1 = ((q - 1 : Nat) : Int) by omega, rd_nums (by omega), mx_max]
        have e : 0 + l[i].f1 + ((q - 1 : Nat) : Int) * l[i].f1 = (q : Int) * l[i].f1 := by
          obtain ⟨q, rfl⟩ : ∃ x, q = x + 1 := ⟨q - 1, by omega⟩
          rw [show (q + 1 - 1 : Nat) = q by omega, Int.natCast_add, Int.add_mul]
          omega
        rw [e]
        rw [← hq] at d1 dn
        exact ih (i + 1) k _ (by omega) (by omega) (by omega) (by omega)
      · have e : (q : Int) = 0 := by omega
        rw [if_neg c, e, Int.zero_mul, show max s 0 = s by omega]
        exact ih (i + 1) k _ (by omega) (by omega) h0 h1
  have := loop l.length 0 k 0 (by omega) hk (by omega) (by omega)
  rw [List.drop_zero] at this
  exact this
theorem last_zero (l : List Fix) (hl : l.length ≤ 1000) {k : Nat} (hk : l.length < k) : demand_last.f k l 0 = some 0 := by
  unfold demand_last.f
  have loop : ∀ (d i k : Nat), i + d = l.length → d < k → demand_last.l0 k 0 0 l (l.length : Int) (i : Int) = some 0 := by
    intro d
    induction d with
    | zero =>
      intro i k hi hk
      obtain ⟨k, rfl⟩ : ∃ x, k = x + 1 := ⟨k - 1, by omega⟩
      rw [demand_last.l0, if_neg (by omega)]
    | succ d ih =>
      intro i k hi hk
      obtain ⟨k, rfl⟩ : ∃ x, k = x + 1 := ⟨k - 1, by omega⟩
      have hlt : i < l.length := by omega
      rw [demand_last.l0, if_pos (by omega), if_pos (by omega), if_pos (by omega), rd_fix hlt, w64 (x := (0 : Int) - 1) (by omega) (by omega), ends_no (fun q => by have := q.2.2.2.2.1; omega), Option.bind_some, if_neg (by simp),
        w64 (x := (i : Int) + 1) (by omega) (by omega), show ((i : Int) + 1) = ((i + 1 : Nat) : Int) by omega]
      exact ih (i + 1) k (by omega) (by omega)
  exact loop l.length 0 k (by omega) hk
end Go.Proofs.Ytngledpkoeioiaa.Pure
