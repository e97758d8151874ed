/- With one task less no other one has a longer period, and what had room has it. No condition. -/
import Derived.Test.YtaejikbfnlihmaaQPlanLess
import Derived.Test.YtaejikbfnlihmaaLibAll10
namespace Go.Proofs.Ytaejikbfnlihmaa.Pure
open Go.RowKit Go.Proofs.Ytaejikbfnlihmaa.P Go.Proofs.YtaejikbfnlihmaaW.PrintWords Go.Proofs.YtaejikbfnlihmaaW.PrintLast
set_option linter.unusedVariables false
set_option linter.unusedSimpArgs false
theorem gOf_append (a b : Int) (l m : List Spr) : gOf a b (l ++ m) = gOf a b l + gOf a b m := by unfold gOf; rw [List.map_append, sum_append]
theorem xOf_pos {a b : Int} (h0 : 0 ≤ a) (hb : 1 ≤ b) {s : Spr} (o : okP s) : 0 ≤ xOf a b s := by
  have p := prs_spec h0 hb o
  have q := lst_bound o
  have : 0 ≤ b * prs a b s := Int.mul_nonneg (by omega) (by omega)
  omega
theorem force_less {l m : List Spr} {s : Spr} (ho : ∀ x ∈ l ++ s :: m, okP x) {load a b a' b' : Int} (h : isForce (l ++ s :: m) load a b) (h' : isForce (l ++ m) load a' b') : a' * b ≤ a * b' := by
  have a0 := h.1
  have b1 := h.2.2.1
  have b1' := h'.2.2.1
  have a0' := h'.1
  have ho' : ∀ x ∈ l ++ m, okP x := fun x hx => ho x (by
    rcases List.mem_append.1 hx with q | q
    · exact List.mem_append_left _ q
    · exact List.mem_append_right _ (List.mem_cons_of_mem _ q))
  refine Int.not_lt.1 fun hlt => ?_
  rcases h'.2.2.2.2.2 with ⟨z, _⟩ | ⟨_, g, y, hy, hy1, hy2⟩
  · subst z
    have : 0 ≤ a * b' := Int.mul_nonneg a0 (by omega)
    omega
  · have t1 := gOf_less (l := l ++ m) b1 b1' hlt ho' ⟨y, hy, hy1, hy2⟩
    have t2 := isForce_le ho h
    have t3 : gOf a b (l ++ m) ≤ gOf a b (l ++ s :: m) := by
      rw [gOf_append, gOf_append, gOf_cons]
      have := xOf_pos a0 b1 (ho s (by simp))
      omega
    have t4 : b' * gOf a b (l ++ m) ≤ b' * (b * load) := Int.mul_le_mul_of_nonneg_left (by omega) (by omega)
    rw [g] at t1
    have t5 : b * (b' * load) = b' * (b * load) := Int.mul_left_comm ..
    omega
theorem per_mono {a b a' b' : Int} (h0 : 0 ≤ a) (h0' : 0 ≤ a') (hb : 1 ≤ b) (hb' : 1 ≤ b') (h : a' * b ≤ a * b') {s : Spec} (o : okT s) : perS a' b' s ≤ perS a b s := by
  have o' : okS s.f0 s.f1 s.f2 s.f3 s.f4 s.f5 := o
  have m := prs_mono h0 h0' hb hb' h (sprOf_ok o)
  have p := perS_spec h0 hb o
  have pb := prs_bounds h0 hb o
  have pb' := prs_bounds h0' hb' o
  have q := (at_le o' (q := perS a b s) p.1 p.2.1 pb'.1).1 (by omega)
  have e : perS a' b' s = max (leastP s.f0 s.f3 s.f4 (prs a' b' (sprOf s))) s.f1 := rfl
  omega
theorem less_none {at_ e : Int} {f : List Fix} {k : Nat} (hk : 0 < k) : fuseelaw10_PlanLess.l0 k at_ f e [] 0 = some true := by
  obtain ⟨k, rfl⟩ : ∃ x, k = x + 1 := ⟨k - 1, by omega⟩
  rw [fuseelaw10_PlanLess.l0, if_neg (by simp)]
theorem less_bound {e : Int} {f : List Fix} {g : List Fix} (he : e ≠ 0) {at_ : Int} {k : Nat} (hk : 0 < k) : fuseelaw10_PlanLess.l0 k at_ f e g 0 = some true := by
  obtain ⟨k, rfl⟩ : ∃ x, k = x + 1 := ⟨k - 1, by omega⟩
  rw [fuseelaw10_PlanLess.l0]
  by_cases c : 0 < (g.length : Int)
  · rw [if_pos c, if_neg he]
  · rw [if_neg c]
theorem less_each {l m : List Spec} {s : Spec} (h4 : (l ++ s :: m).length ≤ 4) {F G : Spec → Fix} (hle : ∀ x ∈ l ++ m, (G x).f1 ≤ (F x).f1) : ∀ (d i k : Nat), i + d = (l ++ m).length → d < k →
    fuseelaw10_PlanLess.l0 k (l.length : Int) ((l ++ s :: m).map F) 0 ((l ++ m).map G) (i : Int) = some true := by
  have len : (l ++ s :: m).length = (l ++ m).length + 1 := by simp; omega
  intro d
  induction d with
  | zero =>
    intro i k hi hk
    obtain ⟨k, rfl⟩ : ∃ x, k = x + 1 := ⟨k - 1, by omega⟩
    rw [fuseelaw10_PlanLess.l0, if_neg (by rw [List.length_map]; omega)]
  | succ d ih =>
    intro i k hi hk
    obtain ⟨k, rfl⟩ : ∃ x, k = x + 1 := ⟨k - 1, by omega⟩
    have hlt : i < (l ++ m).length := by omega
    have le := hle _ (List.getElem_mem hlt)
    have next := ih (i + 1) k (by omega) (by omega)
    rw [fuseelaw10_PlanLess.l0, if_pos (by rw [List.length_map]; omega), if_pos rfl]
    by_cases c : (i : Int) ≥ (l.length : Int)
    · have hj : i + 1 < (l ++ s :: m).length := by omega
      have same : (l ++ s :: m)[i + 1] = (l ++ m)[i] := by
        rw [List.getElem_append_right (by omega), List.getElem_append_right (by omega)]
        simp only [show i + 1 - l.length = (i - l.length) + 1 by omega, List.getElem_cons_succ]
      rw [if_pos c, w64 (x := (i : Int) + 1) (by omega) (by omega), show ((i : Int) + 1) = ((i + 1 : Nat) : Int) by omega, if_neg (by rw [List.length_map]; omega), if_pos (by omega), if_pos (by omega), if_pos (by rw [List.length_map]; omega), rd_fixes G hlt, rd_fixes F hj, same, if_neg (by omega)]
      exact next
    · have hj : i < (l ++ s :: m).length := by omega
      have same : (l ++ s :: m)[i] = (l ++ m)[i] := by
        rw [List.getElem_append_left (by omega), List.getElem_append_left (by omega)]
      rw [if_neg c, if_neg (by rw [List.length_map]; omega), if_pos (by omega), if_pos (by rw [List.length_map]; omega), rd_fixes G hlt, rd_fixes F hj, same, if_neg (by omega), w64 (x := (i : Int) + 1) (by omega) (by omega), show ((i : Int) + 1) = ((i + 1 : Nat) : Int) by omega]
      exact next
theorem PlanLess : fuseelaw10_PlanLess.Pure := by
  intro l n _ _ _ _
  refine ⟨1000, ?_⟩
  unfold fuseelaw10_PlanLess.f
  rw [awake10 (by omega), Option.bind_some, if_pos rfl]
  by_cases c1 : (l.length : Int) > 4
  · rw [if_pos c1]
  rw [if_neg c1]
  by_cases c2 : n < 0
  · rw [if_pos c2]
  rw [if_neg c2]
  by_cases c3 : n ≥ (l.length : Int)
  · rw [if_pos c3]
  rw [if_neg c3]
  obtain ⟨i, rfl⟩ : ∃ i : Nat, n = (i : Int) := ⟨n.toNat, by omega⟩
  have hlt : i < l.length := by omega
  obtain ⟨A, s, B, hA, hl⟩ : ∃ A s B, A.length = i ∧ l = A ++ s :: B := ⟨l.take i, l[i], l.drop (i + 1), by rw [List.length_take]; omega, by rw [← List.drop_eq_getElem_cons hlt, List.take_append_drop]⟩
  subst hA hl
  have tk : (A ++ s :: B).take ((A.length : Int)).toNat = A := by simp
  have dp : (A ++ s :: B).drop (((A.length : Int) + 1)).toNat = B := by
    rw [show ((A.length : Int) + 1).toNat = A.length + 1 by omega, show A ++ s :: B = (A ++ [s]) ++ B by simp]
    rw [List.drop_append_of_le_length (by simp), List.drop_of_length_le (by simp), List.nil_append]
  have len : (A ++ s :: B).length = (A ++ B).length + 1 := by simp; omega
  have lenA : A.length + B.length = (A ++ B).length := by simp
  obtain ⟨f, e, h1, r1⟩ := target_cases (A ++ s :: B) (by omega) (k := 1000) (by omega)
  obtain ⟨g, e', h2, r2⟩ := target_cases (A ++ B) (by omega) (k := 1000) (by omega)
  have sub : (∀ x ∈ A ++ s :: B, okT x) → ∀ x ∈ A ++ B, okT x := fun h x hx => h x (by
    rcases List.mem_append.1 hx with q | q
    · exact List.mem_append_left _ q
    · exact List.mem_append_right _ (List.mem_cons_of_mem _ q))
  rw [h1, Option.bind_some, if_pos (by omega), if_pos (by omega), tk, Option.bind_some, if_pos (by simp; omega), Option.bind_some, w64 (by omega) (by omega), if_pos (by omega), if_pos (by omega), dp, Option.bind_some, if_pos (by simp; omega), List.nil_append, h2, Option.bind_some]
  dsimp only
  rcases r2 with ⟨ha, rfl, rfl⟩ | ⟨ha, hr, rfl, rfl⟩ | ⟨ha, hr, a', b', hi', r2⟩
  · rw [if_neg (by decide), if_pos rfl]
    rcases r1 with ⟨_, rfl, rfl⟩ | ⟨hb, _⟩ | ⟨hb, _⟩
    · rfl
    · exact absurd (sub hb) ha
    · exact absurd (sub hb) ha
  · rw [if_pos rfl]
    rcases r1 with ⟨_, rfl, rfl⟩ | ⟨_, _, rfl, rfl⟩ | ⟨hb, hr', _⟩
    · rfl
    · rfl
    · exfalso
      have e1 : leasts (A ++ s :: B) = leasts (A ++ B) + leastS s := by
        unfold leasts
        rw [List.map_append, List.map_append, List.map_cons, sum_append, sum_append, List.sum_cons]
        omega
      have os : okS s.f0 s.f1 s.f2 s.f3 s.f4 s.f5 := hb s (by simp)
      have u := (unitsOf_spec os os.2.2.2.1 (Int.le_refl _)).1
      have : unitsOf s.f0 s.f3 s.f4 s.f2 = leastS s := rfl
      omega
  · rcases r2 with ⟨_, rfl, rfl⟩ | ⟨_, rfl, rfl⟩
    · rw [if_neg (by decide), if_neg (by decide)]
      rcases r1 with ⟨hb, rfl, rfl⟩ | ⟨_, _, rfl, rfl⟩ | ⟨hb, hr', a, b, hi, r1⟩
      · exact less_bound (by decide) (by omega)
      · exact less_bound (by decide) (by omega)
      · rcases r1 with ⟨_, rfl, rfl⟩ | ⟨_, rfl, rfl⟩
        · have hm : mayT (A ++ s :: B) := ⟨hb, by omega⟩
          have ho := (mayP_map hm).1
          rw [List.map_append, List.map_cons] at hi ho
          rw [List.map_append] at hi'
          have fl := force_less ho hi hi'
          exact less_each (by omega) (fun x hx => per_mono hi.1 hi'.1 hi.2.2.1 hi'.2.2.1 fl (ha x hx)) (A ++ B).length 0 1000 (by omega) (by omega)
        · exact less_bound (by decide) (by omega)
    · rw [if_neg (by decide), if_neg (by decide)]
      exact less_none (by omega)
end Go.Proofs.Ytaejikbfnlihmaa.Pure
