/- ErrLoad is told just where the leasts are too much, of tasks that may be; ErrArg just where one may not be. No condition. -/
import Derived.Test.YtaejikbfnlihmaaQPlanWhy
import Derived.Test.YtaejikbfnlihmaaLibAll10
namespace Go.Proofs.Ytaejikbfnlihmaa.Pure
open Go.RowKit Go.Proofs.Ytaejikbfnlihmaa.P Go.Proofs.YtaejikbfnlihmaaW.PrintWords Go.Proofs.YtaejikbfnlihmaaW.PrintLast
set_option linter.unusedVariables false
set_option linter.unusedSimpArgs false
/-- What units.Least tells of any task. -/
def lq (s : Spec) : Int := if okT s then leastS s else 0
theorem lq_eq (s : Spec) : units_Least.f s.f0 s.f1 s.f2 s.f3 s.f4 s.f5 = some (lq s) := by
  unfold lq
  by_cases o : okT s
  · rw [if_pos o]; exact least_ok o
  · rw [if_neg o]; exact least_no o
theorem lq_bound (s : Spec) : 0 ≤ lq s ∧ lq s ≤ 1048576 := by
  unfold lq
  by_cases o : okT s
  · rw [if_pos o]
    have u := unitsOf_spec (show okS s.f0 s.f1 s.f2 s.f3 s.f4 s.f5 from o) (show s.f1 ≤ s.f2 from o.2.2.2.1) (Int.le_refl _)
    have e : unitsOf s.f0 s.f3 s.f4 s.f2 = leastS s := rfl
    omega
  · rw [if_neg o]; omega
def sumQ (l : List Spec) : Int := (l.map lq).sum
theorem sumQ_cons (s : Spec) (l : List Spec) : sumQ (s :: l) = lq s + sumQ l := by unfold sumQ; rw [List.map_cons, List.sum_cons]
theorem sumQ_ok {l : List Spec} (h : ∀ s ∈ l, okT s) : sumQ l = leasts l := by
  unfold sumQ leasts
  congr 1
  exact List.map_congr_left fun s hs => by unfold lq; rw [if_pos (h s hs)]
theorem why_loop {l : List Spec} (h4 : l.length ≤ 4) {e : Int} {s : List Spr} {is : Bool} {K : Nat} (fin : ∀ k, K ≤ k → fuseelaw10_PlanWhy.l0 (k + 1) l e s is (decide (∀ x ∈ l, okT x)) (sumQ l) (l.length : Int) = some true) :
    ∀ (d i k : Nat) (x : Int), i + d = l.length → d + K < k → 0 ≤ x → x ≤ i * 1048576 → x + sumQ (l.drop i) = sumQ l → fuseelaw10_PlanWhy.l0 k l e s is (decide (∀ x ∈ l.take i, okT x)) x (i : Int) = some true := by
  intro d
  induction d with
  | zero =>
    intro i k x hi hk x0 x1 he
    obtain ⟨k, rfl⟩ : ∃ y, k = y + 1 := ⟨k - 1, by omega⟩
    rw [List.drop_of_length_le (by omega)] at he
    simp only [sumQ, List.map_nil, List.sum_nil, Int.add_zero] at he
    have e' : x = sumQ l := he
    have ei : i = l.length := by omega
    rw [List.take_of_length_le (by omega), e', ei]
    exact fin k (by omega)
  | succ d ih =>
    intro i k x hi hk x0 x1 he
    obtain ⟨k, rfl⟩ : ∃ y, k = y + 1 := ⟨k - 1, by omega⟩
    have hlt : i < l.length := by omega
    have b := lq_bound l[i]
    rw [List.drop_eq_getElem_cons hlt, sumQ_cons] at he
    have next := ih (i + 1) k (x + lq l[i]) (by omega) (by omega) (by omega) (by omega) (by omega)
    have tk : (∀ x ∈ l.take (i + 1), okT x) ↔ (∀ x ∈ l.take i, okT x) ∧ okT l[i] := by
      rw [List.take_succ_eq_append_getElem hlt]
      constructor
      · exact fun q => ⟨fun y hy => q y (List.mem_append_left _ hy), q _ (List.mem_append_right _ (List.mem_singleton.2 rfl))⟩
      · rintro ⟨q1, q2⟩ y hy
        rcases List.mem_append.1 hy with z | z
        · exact q1 y z
        · rw [List.mem_singleton.1 z]; exact q2
    rw [fuseelaw10_PlanWhy.l0, if_pos (by omega)]
    by_cases c : ∀ x ∈ l.take i, okT x
    · rw [decide_eq_true c, if_pos rfl, if_pos (by omega), rd_spec hlt, spec_may, Option.bind_some, lq_eq, Option.bind_some, w64 (x := x + lq l[i]) (by omega) (by omega), w64 (by omega) (by omega), show ((i : Int) + 1) = ((i + 1 : Nat) : Int) by omega]
      by_cases o : okT l[i]
      · rw [decide_eq_true (tk.2 ⟨c, o⟩)] at next
        rw [decide_eq_true o]
        exact next
      · rw [decide_eq_false (fun q => o (tk.1 q).2)] at next
        rw [decide_eq_false o]
        exact next
    · rw [decide_eq_false c, if_neg (by decide), if_pos (by omega), rd_spec hlt, lq_eq, Option.bind_some, w64 (x := x + lq l[i]) (by omega) (by omega), w64 (by omega) (by omega), show ((i : Int) + 1) = ((i + 1 : Nat) : Int) by omega]
      rw [decide_eq_false (fun q => c (tk.1 q).1)] at next
      exact next
theorem PlanWhy : fuseelaw10_PlanWhy.Pure := by
  intro l _ _ _
  refine ⟨1000, ?_⟩
  unfold fuseelaw10_PlanWhy.f
  rw [awake10 (by omega), Option.bind_some, if_pos rfl]
  by_cases c1 : (l.length : Int) > 4
  · rw [if_pos c1]
  rw [if_neg c1]
  have h4 : l.length ≤ 4 := by omega
  obtain ⟨f, e, h1, r1⟩ := target_cases l h4 (k := 1000) (by omega)
  rw [h1, Option.bind_some]
  dsimp only
  have start : decide (∀ x ∈ l.take 0, okT x) = true := by simp
  by_cases ha : ∀ s ∈ l, okT s
  · have hm : mayT l := ⟨ha, h4⟩
    rw [springs_ok hm (by omega), Option.bind_some]
    dsimp only
    have := why_loop h4 (e := e) (s := l.map sprOf) (is := true) (K := 100) (fun k hk => by
      rw [fuseelaw10_PlanWhy.l0, if_neg (by omega), decide_eq_true ha, if_neg (by decide), sumQ_ok ha]
      have hroom := roomP_eq (l.map sprOf) 983040 (k := k) (by rw [List.length_map]; omega)
      rcases r1 with ⟨hb, _⟩ | ⟨_, hr, rfl, rfl⟩ | ⟨_, hr, a, b, hi, r1⟩
      · exact absurd ha hb
      · rw [if_neg (by decide), if_pos rfl, decide_eq_true (show leasts l > 983040 by omega), if_pos (by decide), hroom, Option.bind_some, decide_eq_false (fun q => by have := (room_iff hm).1 q; omega), if_pos (by decide), if_neg (by decide), if_pos rfl]
      · rcases r1 with ⟨_, rfl, _⟩ | ⟨_, rfl, _⟩
        · rw [if_neg (by decide), if_pos rfl, decide_eq_false (show ¬ leasts l > 983040 by omega), if_pos (by decide), hroom, Option.bind_some, decide_eq_true ((room_iff hm).2 hr), if_pos (by decide), if_pos rfl]
        · rw [if_neg (by decide), if_pos rfl, decide_eq_false (show ¬ leasts l > 983040 by omega), if_pos (by decide), hroom, Option.bind_some, decide_eq_true ((room_iff hm).2 hr), if_pos (by decide), if_neg (by decide), if_neg (by decide)]
          rfl) l.length 0 1000 0 (by omega) (by omega) (by omega) (by omega) (by simp)
    rw [start] at this
    exact this
  · rw [springs_no (fun q => ha q.1) (by omega), Option.bind_some]
    dsimp only
    have := why_loop h4 (e := e) (s := []) (is := false) (K := 100) (fun k hk => by
      rw [fuseelaw10_PlanWhy.l0, if_neg (by omega), decide_eq_false ha, if_neg (by decide)]
      rcases r1 with ⟨_, rfl, rfl⟩ | ⟨hb, _⟩ | ⟨hb, _⟩
      · rw [if_neg (by decide), if_neg (by decide)]
      · exact absurd hb ha
      · exact absurd hb ha) l.length 0 1000 0 (by omega) (by omega) (by omega) (by omega) (by simp)
    rw [start] at this
    exact this
end Go.Proofs.Ytaejikbfnlihmaa.Pure
