/- Any two numbers have the quotients, and any four stand to one another, and any has the root, and beats another one, or not, as the document says. No condition. -/
import Derived.Test.YtdhedkeeccofgaaPx10
import Derived.Test.YtdhedkeeccofgaaLibFrac
import Derived.Test.YtdhedkeeccofgaaLibA01
namespace Go.Proofs.Ytdhedkeeccofgaa.Pure
open Go.RowKit Go.Proofs.Ytdhedkeeccofgaa.P Go.Proofs.YtdhedkeeccofgaaW.PrintWords Go.Proofs.YtdhedkeeccofgaaW.PrintLast
set_option linter.unusedVariables false
set_option linter.unusedSimpArgs false
theorem rmay_eq (a : Int) : fuseeref01_May.f a = some (decide (0 ≤ a ∧ a ≤ 4611686018427387904)) := by
  unfold fuseeref01_May.f
  by_cases h : a ≥ 0
  · rw [if_pos h]; simp; omega
  · rw [if_neg h]; simp; omega
theorem rfloor_ok {a b : Int} (h : okq a b) : fuseeref01_Floor.f a b = some (a / b, true) := by
  obtain ⟨h0, h1, h2, h3⟩ := h
  unfold fuseeref01_Floor.f
  rw [rmay_eq, rmay_eq, decide_eq_true ⟨h0, h1⟩, decide_eq_true ⟨by omega, h3⟩]
  simp only [Option.bind_some, if_true]
  have := Int.ediv_le_self b h0
  have q0 : 0 ≤ a / b := Int.ediv_nonneg h0 (by omega)
  have q1 : a / b ≤ a := Int.ediv_le_self b h0
  rw [if_neg (by omega), Int.tdiv_eq_ediv_of_nonneg h0, w64 (by omega) (by omega)]
theorem rfloor_no {a b : Int} (h : ¬ okq a b) : fuseeref01_Floor.f a b = some (0, false) := by
  unfold fuseeref01_Floor.f
  rw [rmay_eq, rmay_eq]
  simp only [Option.bind_some]
  by_cases c1 : 0 ≤ a ∧ a ≤ 4611686018427387904
  · rw [decide_eq_true c1, if_pos rfl]
    by_cases c2 : 0 ≤ b ∧ b ≤ 4611686018427387904
    · rw [decide_eq_true c2, if_pos rfl]
      by_cases c3 : b = 0
      · rw [if_pos c3]
      · exact absurd ⟨c1.1, c1.2, by omega, c2.2⟩ h
    · rw [decide_eq_false c2, if_neg (by decide)]
  · rw [decide_eq_false c1, if_neg (by decide)]
theorem rfloor (a b : Int) : fuseeref01_Floor.f a b = frac_Floor.f a b := by
  by_cases h : okq a b
  · rw [rfloor_ok h, floor_ok h]
  · rw [rfloor_no h, floor_no h]
theorem rceil (a b : Int) : fuseeref01_Ceil.f a b = frac_Ceil.f a b := by
  unfold fuseeref01_Ceil.f
  by_cases h : okq a b
  · rw [rfloor_ok h, ceil_ok h]
    obtain ⟨h0, h1, h2, h3⟩ := h
    have e := Int.mul_ediv_add_emod a b
    have m0 := Int.emod_nonneg a (show b ≠ 0 by omega)
    have m1 := Int.emod_lt_of_pos a (show 0 < b by omega)
    have q0 : 0 ≤ a / b := Int.ediv_nonneg h0 (by omega)
    have q1 : a / b ≤ a := Int.ediv_le_self b h0
    have ec : a / b * b = a - a % b := by rw [Int.mul_comm]; omega
    simp only [Option.bind_some, if_true]
    rw [w64 (x := a / b * b) (by omega) (by omega), ec, w64 (x := a / b + 1) (by omega) (by omega)]
    by_cases hr : a % b = 0
    · have : min (a % b) 1 = 0 := by omega
      rw [if_neg (by omega), this, Int.add_zero]
    · have : min (a % b) 1 = 1 := by omega
      rw [if_pos (by omega), this]
  · rw [rfloor_no h, ceil_no h]
    rfl
/-- What stands to what. -/
def sgn (x y : Int) : Int := if x < y then -1 else if y < x then 1 else 0
theorem sgn_add (x y z : Int) : sgn (x + z) (y + z) = sgn x y := by
  unfold sgn
  repeat' split
  all_goals omega
theorem rcmp_l0 : ∀ (n : Nat) (a b c d : Int), 0 ≤ a → a ≤ 4611686018427387904 → 1 ≤ b → b ≤ 4611686018427387904 → 0 ≤ c → c ≤ 4611686018427387904 → 1 ≤ d → d ≤ 4611686018427387904 → b + d ≤ n →
    ∃ K, fuseeref01_Cmp.l0 K a b c d (a / b) (c / d) = some (sgn (a * d) (c * b), true) := by
  intro n
  induction n with
  | zero => intro a b c d _ _ h _ _ _ h' _ h2; omega
  | succ n ih =>
    intro a b c d a0 a1 b0 b1 c0 c1 d0 d1 hn
    have ea := Int.mul_ediv_add_emod a b
    have ma0 := Int.emod_nonneg a (show b ≠ 0 by omega)
    have ma1 := Int.emod_lt_of_pos a (show 0 < b by omega)
    have ec := Int.mul_ediv_add_emod c d
    have mc0 := Int.emod_nonneg c (show d ≠ 0 by omega)
    have mc1 := Int.emod_lt_of_pos c (show 0 < d by omega)
    have qa0 : 0 ≤ a / b := Int.ediv_nonneg a0 (by omega)
    have qc0 : 0 ≤ c / d := Int.ediv_nonneg c0 (by omega)
    have wa : wrap64 (a - wrap64 (a / b * b)) = a % b := by
      have : a / b * b = a - a % b := by rw [Int.mul_comm]; omega
      rw [w64 (x := a / b * b) (by omega) (by omega), w64 (by omega) (by omega)]; omega
    have wc : wrap64 (c - wrap64 (c / d * d)) = c % d := by
      have : c / d * d = c - c % d := by rw [Int.mul_comm]; omega
      rw [w64 (x := c / d * d) (by omega) (by omega), w64 (by omega) (by omega)]; omega
    by_cases hx : a / b = c / d
    · have key : sgn (a * d) (c * b) = sgn (a % b * d) (c % d * b) := by
        have k1 : a * d = a % b * d + b * (a / b) * d := by
          have : a * d = (b * (a / b) + a % b) * d := by rw [ea]
          rw [this]; grind
        have k2 : c * b = c % d * b + b * (a / b) * d := by
          have : c * b = (d * (c / d) + c % d) * b := by rw [ec]
          rw [this, ← hx]; grind
        rw [k1, k2, sgn_add]
      rw [key]
      by_cases za : a % b = 0
      · by_cases zc : c % d = 0
        · refine ⟨2, ?_⟩
          rw [fuseeref01_Cmp.l0, if_pos hx, wa, wc, if_pos za, fuseeref01_Cmp.j2, if_pos (by rw [zc]; rfl), za, zc, Int.zero_mul, Int.zero_mul]
          rfl
        · refine ⟨2, ?_⟩
          have : 0 < c % d * b := Int.mul_pos (by omega) (by omega)
          rw [fuseeref01_Cmp.l0, if_pos hx, wa, wc, if_pos za, fuseeref01_Cmp.j2, if_neg (by simpa using zc), if_pos za, za, Int.zero_mul]
          unfold sgn
          rw [if_pos this]
      · by_cases zc : c % d = 0
        · refine ⟨2, ?_⟩
          have : 0 < a % b * d := Int.mul_pos (by omega) (by omega)
          rw [fuseeref01_Cmp.l0, if_pos hx, wa, wc, if_neg za, fuseeref01_Cmp.j2, if_neg (by decide), if_neg za, if_pos zc, zc, Int.zero_mul]
          unfold sgn
          rw [if_neg (by omega), if_pos this]
        · obtain ⟨K, hK⟩ := ih d (c % d) b (a % b) (by omega) (by omega) (by omega) (by omega) (by omega) (by omega) (by omega) (by omega) (by omega)
          refine ⟨K + 2, ?_⟩
          have q1 : 0 ≤ d / (c % d) := Int.ediv_nonneg (by omega) (by omega)
          have q2 : d / (c % d) ≤ d := Int.ediv_le_self _ (by omega)
          have q3 : 0 ≤ b / (a % b) := Int.ediv_nonneg (by omega) (by omega)
          have q4 : b / (a % b) ≤ b := Int.ediv_le_self _ (by omega)
          rw [fuseeref01_Cmp.l0, if_pos hx, wa, wc, if_neg za, fuseeref01_Cmp.j2, if_neg (by decide), if_neg za, if_neg zc, Int.tdiv_eq_ediv_of_nonneg (by omega), Int.tdiv_eq_ediv_of_nonneg (by omega), w64 (by omega) (by omega), w64 (by omega) (by omega), hK, Int.mul_comm d, Int.mul_comm b]
    · refine ⟨1, ?_⟩
      rw [fuseeref01_Cmp.l0, if_neg hx]
      have lt : ∀ a b c d : Int, 1 ≤ b → 1 ≤ d → a / b < c / d → a * d < c * b := by
        intro a b c d hb hd h
        have h1 : a < (c / d) * b := by
          have : a < (a / b + 1) * b := Int.lt_ediv_add_one_mul_self a (by omega)
          exact Int.lt_of_lt_of_le this (Int.mul_le_mul_of_nonneg_right (by omega) (by omega))
        have h2 : a * d < (c / d) * b * d := Int.mul_lt_mul_of_pos_right h1 (by omega)
        have h3 : (c / d) * d * b ≤ c * b := Int.mul_le_mul_of_nonneg_right (Int.ediv_mul_le c (by omega)) (by omega)
        have h4 : (c / d) * b * d = (c / d) * d * b := by grind
        omega
      by_cases hl : a / b < c / d
      · rw [if_pos hl]
        unfold sgn
        rw [if_pos (lt _ _ _ _ b0 d0 hl)]
      · rw [if_neg hl]
        have := lt c d a b d0 b0 (by omega)
        unfold sgn
        rw [if_neg (by omega), if_pos this]
theorem rcmp (a b c d : Int) : ∃ K, fuseeref01_Cmp.f K a b c d = frac_Cmp.f a b c d := by
  by_cases h : okq a b
  · by_cases h' : okq c d
    · obtain ⟨K, hK⟩ := rcmp_l0 (b + d).toNat a b c d h.1 h.2.1 h.2.2.1 h.2.2.2 h'.1 h'.2.1 h'.2.2.1 h'.2.2.2 (by have := h.2.2.1; have := h'.2.2.1; omega)
      refine ⟨K + 1, ?_⟩
      unfold fuseeref01_Cmp.f
      rw [rfloor_ok h, rfloor_ok h', cmp_ok h h']
      simp only [Option.bind_some, if_true]
      rw [fuseeref01_Cmp.j0, if_neg (by decide), hK]
      rfl
    · refine ⟨1, ?_⟩
      unfold fuseeref01_Cmp.f
      rw [rfloor_ok h, rfloor_no h', cmp_no (fun q => h' q.2)]
      simp only [Option.bind_some, if_true]
      rw [fuseeref01_Cmp.j0, if_pos (by decide)]
  · refine ⟨1, ?_⟩
    unfold fuseeref01_Cmp.f
    rw [rfloor_no h, cmp_no (fun q => h q.1)]
    obtain ⟨q, hq⟩ : ∃ q, fuseeref01_Floor.f c d = some q := by
      by_cases h' : okq c d
      · exact ⟨_, rfloor_ok h'⟩
      · exact ⟨_, rfloor_no h'⟩
    rw [hq]
    simp only [Option.bind_some]
    rw [if_neg (by decide), fuseeref01_Cmp.j0, if_pos rfl]
theorem rroot_l0 (n : Int) (n0 : 0 ≤ n) (hn : n ≤ 4611686018427387904) : ∀ (j : Nat) (r b : Int), b = 2 ^ j → b ≤ 2147483648 → 0 ≤ r → r ≤ 2147483648 → r * r ≤ n → n < (r + 2 * b) * (r + 2 * b) →
    ∃ s, fuseeref01_Root.l0 (j + 2) n r b = some (s, true) ∧ 0 ≤ s ∧ s * s ≤ n ∧ n < (s + 1) * (s + 1) := by
  intro j
  induction j with
  | zero =>
    intro r b hb hb1 r0 r1 h1 h2
    have : b = 1 := by simpa using hb
    subst this
    have e0 : ∀ x, fuseeref01_Root.l0 1 n x 0 = some (x, true) := fun x => by rw [fuseeref01_Root.l0, if_neg (by decide)]
    have e1 : wrap64 (Int.tdiv 1 2) = 0 := by decide +kernel
    rw [fuseeref01_Root.l0, if_pos (by decide), e1, w64 (x := r + 1) (by omega) (by omega)]
    by_cases c1 : r + 1 ≤ 2147483648
    · have s1 : (r + 1) * (r + 1) ≤ 2147483648 * 2147483648 := sq_le (by omega) c1
      have s0 : 0 ≤ (r + 1) * (r + 1) := Int.mul_nonneg (by omega) (by omega)
      rw [if_pos c1, w64 (by omega) (by omega)]
      by_cases c2 : (r + 1) * (r + 1) ≤ n
      · rw [if_pos c2, e0]
        exact ⟨r + 1, rfl, by omega, c2, by rw [show r + 1 + 1 = r + 2 * 1 by omega]; exact h2⟩
      · rw [if_neg c2, e0]
        exact ⟨r, rfl, r0, h1, by omega⟩
    · rw [if_neg c1, e0]
      have : r = 2147483648 := by omega
      subst this
      exact ⟨_, rfl, r0, h1, by omega⟩
  | succ j ih =>
    intro r b hb hb1 r0 r1 h1 h2
    have hp : (1 : Int) ≤ 2 ^ j := Int.pow_pos (by decide)
    have hb' : b = 2 * 2 ^ j := by rw [hb, Int.pow_succ]; omega
    have hd : Int.tdiv b 2 = 2 ^ j := by rw [Int.tdiv_eq_ediv_of_nonneg (by omega)]; omega
    generalize hq : (2 : Int) ^ j = q at *
    rw [fuseeref01_Root.l0, if_pos (by omega), hd, w64 (x := q) (by omega) (by omega), w64 (x := r + b) (by omega) (by omega)]
    by_cases c1 : r + b ≤ 2147483648
    · have s1 : (r + b) * (r + b) ≤ 2147483648 * 2147483648 := sq_le (by omega) c1
      have s0 : 0 ≤ (r + b) * (r + b) := Int.mul_nonneg (by omega) (by omega)
      rw [if_pos c1, w64 (by omega) (by omega)]
      by_cases c2 : (r + b) * (r + b) ≤ n
      · rw [if_pos c2]
        exact ih (r + b) q rfl (by omega) (by omega) c1 c2 (by rw [show r + b + 2 * q = r + 2 * b by omega]; exact h2)
      · rw [if_neg c2]
        exact ih r q rfl (by omega) r0 r1 h1 (by rw [show r + 2 * q = r + b by omega]; omega)
    · rw [if_neg c1]
      have s1 : 2147483649 * 2147483649 ≤ (r + b) * (r + b) := sq_le (by decide) (by omega)
      exact ih r q rfl (by omega) r0 r1 h1 (by rw [show r + 2 * q = r + b by omega]; omega)
theorem rroot (n : Int) : fuseeref01_Root.f 40 n = frac_Root.f 40 n := by
  by_cases h : 0 ≤ n ∧ n ≤ 4611686018427387904
  · obtain ⟨r, hr, h0, h1, h2, h3⟩ := root_ok h.1 h.2
    obtain ⟨s, hs, k0, k1, k2⟩ := rroot_l0 n h.1 h.2 31 0 2147483648 (by decide) (by omega) (by omega) (by omega) (by omega) (by omega)
    have e : s = r := by
      have a1 : s ≤ r := sq_mono k0 h0 (by omega)
      have a2 : r ≤ s := sq_mono h0 k0 (by omega)
      omega
    subst e
    have hf : fuseeref01_Root.f 33 n = some (s, true) := by
      unfold fuseeref01_Root.f
      rw [rmay_eq, decide_eq_true h]
      exact hs
    rw [hr 40 (by omega), at_rounds (fuseeref01_Root.mono n) (show 33 ≤ 40 by omega) hf]
  · rw [root_no h]
    unfold fuseeref01_Root.f
    rw [rmay_eq, decide_eq_false h]
    rfl
theorem rbeats (v s k : Int) : fuseeref01_Beats.f v s k = frac_Beats.f v s k := by
  rw [beats_eq]
  unfold fuseeref01_Beats.f
  have no : ¬ okb v s k → some false = some (decide (okb v s k ∧ (v - s) * (v - s) > k * s * s)) := fun h => by rw [decide_eq_false (fun q => h q.1)]
  by_cases c1 : v < 0
  · rw [if_pos c1]; exact no (fun h => by have := h.1; omega)
  rw [if_neg c1]
  by_cases c2 : s < 0
  · rw [if_pos c2]; exact no (fun h => by have := h.2.1; omega)
  rw [if_neg c2]
  by_cases c3 : k < 0
  · rw [if_pos c3]; exact no (fun h => by have := h.2.2.1; omega)
  rw [if_neg c3]
  by_cases c4 : v > 1048576
  · rw [if_pos c4]; exact no (fun h => by have := h.1; omega)
  rw [if_neg c4]
  by_cases c5 : s > 1048576
  · rw [if_pos c5]; exact no (fun h => by have := h.2.1; omega)
  rw [if_neg c5]
  by_cases c6 : k > 1048576
  · rw [if_pos c6]; exact no (fun h => by have := h.2.2.1; omega)
  rw [if_neg c6]
  by_cases c7 : v > s
  · rw [if_pos c7]
    have b1 : (v - s) * (v - s) ≤ 1048576 * 1048576 := sq_le (by omega) (by omega)
    have b0 : 0 ≤ (v - s) * (v - s) := Int.mul_nonneg (by omega) (by omega)
    have m1 : k * s ≤ 1048576 * 1048576 := Int.mul_le_mul (by omega) (by omega) (by omega) (by omega)
    have m0 : 0 ≤ k * s := Int.mul_nonneg (by omega) (by omega)
    have d1 : k * s * s ≤ 1099511627776 * 1048576 := Int.mul_le_mul (by omega) (by omega) (by omega) (by omega)
    have d0 : 0 ≤ k * s * s := Int.mul_nonneg m0 (by omega)
    rw [w64 (x := v - s) (by omega) (by omega), w64 (by omega) (by omega), w64 (x := k * s) (by omega) (by omega), w64 (by omega) (by omega)]
    have hb : okb v s k := ⟨⟨by omega, by omega⟩, ⟨by omega, by omega⟩, ⟨by omega, by omega⟩, by omega⟩
    simp [hb]
  · rw [if_neg c7]; exact no (fun h => by have := h.2.2.2; omega)
theorem FracTells : fuseelaw01_FracTells.Pure := by
  intro a b c d _ _ _ _
  obtain ⟨K, hK⟩ := rcmp a b c d
  refine ⟨K + 40, ?_⟩
  obtain ⟨p1, q1⟩ : ∃ p, frac_Floor.f a b = some p := by
    by_cases h : okq a b
    · exact ⟨_, floor_ok h⟩
    · exact ⟨_, floor_no h⟩
  obtain ⟨p2, q2⟩ : ∃ p, frac_Ceil.f a b = some p := by
    by_cases h : okq a b
    · exact ⟨_, ceil_ok h⟩
    · exact ⟨_, ceil_no h⟩
  obtain ⟨p3, q3⟩ : ∃ p, frac_Cmp.f a b c d = some p := by
    by_cases h : okq a b ∧ okq c d
    · exact ⟨_, cmp_ok h.1 h.2⟩
    · exact ⟨_, cmp_no h⟩
  obtain ⟨p4, q4⟩ : ∃ p, frac_Root.f 40 a = some p := by
    by_cases h : 0 ≤ a ∧ a ≤ 4611686018427387904
    · obtain ⟨r, hr, _⟩ := root_ok h.1 h.2
      exact ⟨_, hr 40 (by omega)⟩
    · exact ⟨_, root_no h 40⟩
  have z3 := at_rounds (fuseeref01_Cmp.mono a b c d) (show K ≤ K + 40 by omega) (hK.trans q3)
  have z4 := at_rounds (frac_Root.mono a) (show 40 ≤ K + 40 by omega) q4
  have z5 := at_rounds (fuseeref01_Root.mono a) (show 40 ≤ K + 40 by omega) ((rroot a).trans q4)
  unfold fuseelaw01_FracTells.f
  rw [awake01, rfloor, rceil, q1, q2, q3, z3, z4, z5, rbeats, beats_eq]
  simp
end Go.Proofs.Ytdhedkeeccofgaa.Pure
