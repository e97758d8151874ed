/- The force by the document's search through all sets is the one force. No condition but each lemma's own. -/
import Derived.Test.YtencdmcidhojgaaLibSpringRef
namespace Go.Proofs.Ytencdmcidhojgaa.Pure
open Go.RowKit Go.Proofs.Ytencdmcidhojgaa.P Go.Proofs.YtencdmcidhojgaaW.PrintWords Go.Proofs.YtencdmcidhojgaaW.PrintLast Go.Proofs.YtencdmcidhojgaaW.PrintMore
set_option linter.unusedVariables false
set_option linter.unusedSimpArgs false
/-- A set by which all have no more than the load. -/
def cand (l : List Spr) (load : Int) (n : Nat) : Prop := 1 ≤ sE n l ∧ load ≤ sA n l ∧ gOf (sA n l - load) (sE n l) l ≤ sE n l * load
def InvS (l : List Spr) (load : Int) (n : Nat) (X Y : Int) : Prop :=
  (X = 0 ∧ Y = 0 ∧ ∀ m, 1 ≤ m → m < n → ¬ cand l load m) ∨
  (1 ≤ Y ∧ Y ≤ 32 ∧ 0 ≤ X ∧ X ≤ 4194304 ∧ gOf X Y l ≤ Y * load ∧ ∀ m, 1 ≤ m → m < n → cand l load m → X * sE m l ≤ (sA m l - load) * Y)
theorem one_set {l : List Spr} (ho : ∀ s ∈ l, okP s) (h4 : l.length ≤ 4) {load : Int} (h0 : 0 ≤ load) (h1 : load ≤ 1099511627776) {n : Nat} (hn : 1 ≤ n) (hn2 : n < 16) {X Y : Int} (hi : InvS l load n X Y) {k : Nat} (hk : 100 ≤ k) :
    ∃ X' Y', fuseeref07_Force.l0 (k + l.length + 3) l load X Y (n : Int) = fuseeref07_Force.l0 k l load X' Y' ((n + 1 : Nat) : Int) ∧ InvS l load (n + 1) X' Y' := by
  have sb := set_bound (l := l) n ho
  have more : ∀ {P : Nat → Prop}, (∀ m, 1 ≤ m → m < n → P m) → P n → ∀ m, 1 ≤ m → m < n + 1 → P m := by
    intro P h1 h2 m hm hm2
    by_cases c : m = n
    · rw [c]; exact h2
    · exact h1 m hm (by omega)
  obtain ⟨m', e⟩ := set_loop ho h4 (load := load) (X := X) (Y := Y) (n := (n : Int)) l.length 0 (k + l.length + 2) n (-load) 0 (by omega) (by omega) (by omega) (by omega) (by omega) (by omega) (by omega)
  rw [List.drop_zero, show k + l.length + 2 - l.length = k + 1 + 1 by omega, Int.zero_add] at e
  have ea : -load + sA n l = sA n l - load := by omega
  rw [ea] at e
  have e1 : fuseeref07_Force.l0 (k + l.length + 3) l load X Y (n : Int) = fuseeref07_Force.l1 (k + 1 + 1) l load X Y (n : Int) (sA n l - load) (sE n l) m' (l.length : Int) := by
    rw [show k + l.length + 3 = (k + l.length + 2) + 1 by omega, fuseeref07_Force.l0, if_pos (by omega), w64 (x := -load) (by omega) (by omega)]
    exact e
  rw [e1, fuseeref07_Force.l1, if_neg (by omega)]
  have hw : wrap64 ((n : Int) + 1) = ((n + 1 : Nat) : Int) := w64 (by omega) (by omega)
  have keep : ¬ cand l load n → InvS l load (n + 1) X Y := by
    intro hc
    rcases hi with ⟨a, b, c⟩ | ⟨a, b, c, d, g, f⟩
    · exact Or.inl ⟨a, b, more c hc⟩
    · exact Or.inr ⟨a, b, c, d, g, more f (fun q => absurd q hc)⟩
  by_cases c1 : sE n l = 0
  · refine ⟨X, Y, ?_, keep (fun q => by have := q.1; omega)⟩
    rw [if_pos c1, fuseeref07_Force.j2, if_pos rfl, hw]
  rw [if_neg c1]
  by_cases c2 : sA n l - load < 0
  · refine ⟨X, Y, ?_, keep (fun q => by have := q.2.1; omega)⟩
    rw [if_pos c2, fuseeref07_Force.j2, if_pos rfl, hw]
  rw [if_neg c2, total_eq ho h4 (by omega) (by omega) (by omega) (by omega) (by omega), Option.bind_some]
  have mb := mulb (a := sE n l) (b := load) (by omega) (show sE n l ≤ 32 by omega) h0 h1
  rw [w64 (x := sE n l * load) (by omega) (by omega)]
  by_cases c3 : gOf (sA n l - load) (sE n l) l > sE n l * load
  · refine ⟨X, Y, ?_, keep (fun q => by have := q.2.2; omega)⟩
    rw [decide_eq_true c3, fuseeref07_Force.j2, if_pos rfl, hw]
  rw [decide_eq_false c3, fuseeref07_Force.j2, if_neg (by decide)]
  have hc : cand l load n := ⟨by omega, by omega, by omega⟩
  by_cases c4 : Y = 0
  · refine ⟨sA n l - load, sE n l, ?_, ?_⟩
    · rw [if_pos c4, hw]
    · refine Or.inr ⟨by omega, by omega, by omega, by omega, by omega, ?_⟩
      rcases hi with ⟨a, b, c⟩ | ⟨a, _⟩
      · exact more (fun m hm hm2 q => absurd q (c m hm hm2)) (fun _ => Int.le_refl _)
      · omega
  · rw [if_neg c4]
    rcases hi with ⟨_, b, _⟩ | ⟨y1, y2, x1, x2, g, f⟩
    · exact absurd b c4
    · have p1 := mulb (a := sA n l - load) (b := Y) (by omega) (show sA n l - load ≤ 4194304 by omega) (by omega) y2
      have p2 := mulb (a := X) (b := sE n l) (by omega) x2 (by omega) (show sE n l ≤ 32 by omega)
      rw [w64 (x := (sA n l - load) * Y) (by omega) (by omega), w64 (x := X * sE n l) (by omega) (by omega), hw]
      by_cases c5 : (sA n l - load) * Y < X * sE n l
      · refine ⟨sA n l - load, sE n l, by rw [if_pos c5], Or.inr ⟨by omega, by omega, by omega, by omega, by omega, more (fun m hm hm2 q => ?_) (fun _ => Int.le_refl _)⟩⟩
        have r := f m hm hm2 q
        have q1 := q.1
        have q2 := q.2.1
        have r1 : X * sE m l * sE n l ≤ (sA m l - load) * Y * sE n l := Int.mul_le_mul_of_nonneg_right r (by omega)
        have r2 : (sA n l - load) * Y * sE m l ≤ X * sE n l * sE m l := Int.mul_le_mul_of_nonneg_right (by omega) (by omega)
        have r3 : X * sE n l * sE m l = X * sE m l * sE n l := by ac_rfl
        have r4 : (sA n l - load) * sE m l * Y ≤ (sA m l - load) * sE n l * Y := by
          have w1 : (sA n l - load) * sE m l * Y = (sA n l - load) * Y * sE m l := by ac_rfl
          have w2 : (sA m l - load) * sE n l * Y = (sA m l - load) * Y * sE n l := by ac_rfl
          omega
        exact Int.le_of_mul_le_mul_right r4 (by omega)
      · refine ⟨X, Y, by rw [if_neg c5], Or.inr ⟨y1, y2, x1, x2, g, more f (fun _ => by omega)⟩⟩
theorem all_sets {l : List Spr} (ho : ∀ s ∈ l, okP s) (h4 : l.length ≤ 4) {load : Int} (h0 : 0 ≤ load) (h1 : load ≤ 1099511627776) : ∀ (d n k : Nat) (X Y : Int), n + d = 16 → 1 ≤ n → 100 ≤ k → InvS l load n X Y →
    ∃ X' Y', fuseeref07_Force.l0 (k + 1 + d * (l.length + 3)) l load X Y (n : Int) = fuseeref07_Force.l2 k X' Y' 2 ∧ InvS l load 16 X' Y' := by
  intro d
  induction d with
  | zero =>
    intro n k X Y hn _ hk hi
    have en : n = 16 := by omega
    subst en
    refine ⟨X, Y, ?_, hi⟩
    rw [show k + 1 + 0 * (l.length + 3) = k + 1 by omega, fuseeref07_Force.l0, if_neg (by omega)]
  | succ d ih =>
    intro n k X Y hn hn1 hk hi
    have ef : k + 1 + (d + 1) * (l.length + 3) = (k + 1 + d * (l.length + 3)) + l.length + 3 := by rw [Nat.add_mul]; omega
    obtain ⟨X1, Y1, e1, i1⟩ := one_set ho h4 h0 h1 hn1 (by omega) hi (k := k + 1 + d * (l.length + 3)) (by omega)
    obtain ⟨X2, Y2, e2, i2⟩ := ih (n + 1) k X1 Y1 (by omega) (by omega) hk i1
    exact ⟨X2, Y2, by rw [ef, e1, e2], i2⟩
theorem lower : ∀ (k : Nat) (A B n : Int), 2 ≤ n → n ≤ 32 → 0 ≤ A → A ≤ 4194304 → 1 ≤ B → B ≤ 32 → 2 * (33 - n) + B ≤ k → (∀ m, 2 ≤ m → m < n → ¬ (m ∣ A ∧ m ∣ B)) →
    ∃ A' B' c, fuseeref07_Force.l3 k A B n = some (A', B', true) ∧ A = A' * c ∧ B = B' * c ∧ 1 ≤ c ∧ 0 ≤ A' ∧ 1 ≤ B' ∧ B' ≤ 32 ∧ ∀ m, 2 ≤ m → m ≤ 32 → ¬ (m ∣ A' ∧ m ∣ B') := by
  intro k
  induction k using Nat.strongRecOn with
  | ind k ih =>
    intro A B n hn hn2 A0 A1 B0 B1 hk hm
    obtain ⟨k, rfl⟩ : ∃ y, k = y + 1 := ⟨k - 1, by omega⟩
    have next : ¬ (n ∣ A ∧ n ∣ B) → ∃ A' B' c, fuseeref07_Force.l2 k A B (wrap64 (n + 1)) = some (A', B', true) ∧ A = A' * c ∧ B = B' * c ∧ 1 ≤ c ∧ 0 ≤ A' ∧ 1 ≤ B' ∧ B' ≤ 32 ∧ ∀ m, 2 ≤ m → m ≤ 32 → ¬ (m ∣ A' ∧ m ∣ B') := by
      intro hd
      have hm' : ∀ m, 2 ≤ m → m < n + 1 → ¬ (m ∣ A ∧ m ∣ B) := fun m h1 h2 => by
        by_cases c : m = n
        · rw [c]; exact hd
        · exact hm m h1 (by omega)
      obtain ⟨k, rfl⟩ : ∃ y, k = y + 1 := ⟨k - 1, by omega⟩
      rw [w64 (x := n + 1) (by omega) (by omega), fuseeref07_Force.l2]
      by_cases c : n + 1 ≤ 32
      · rw [if_pos c]
        exact ih k (by omega) A B (n + 1) (by omega) c A0 A1 B0 B1 (by omega) hm'
      · rw [if_neg c]
        exact ⟨A, B, 1, rfl, by omega, by omega, by omega, A0, B0, B1, fun m h1 h2 => hm' m h1 (by omega)⟩
    rw [fuseeref07_Force.l3, if_neg (by omega), Int.tmod_eq_emod_of_nonneg (by omega), Int.tmod_eq_emod_of_nonneg A0, Int.tdiv_eq_ediv_of_nonneg A0, Int.tdiv_eq_ediv_of_nonneg (by omega)]
    by_cases c1 : B % n = 0
    · rw [if_pos c1]
      by_cases c2 : A % n = 0
      · rw [if_pos c2]
        obtain ⟨a, rfl⟩ := Int.dvd_of_emod_eq_zero c2
        obtain ⟨b, rfl⟩ := Int.dvd_of_emod_eq_zero c1
        have n0 : n ≠ 0 := by omega
        rw [Int.mul_ediv_cancel_left _ n0, Int.mul_ediv_cancel_left _ n0]
        have a0 : 0 ≤ a := Int.le_of_mul_le_mul_left (show n * 0 ≤ n * a by omega) (by omega)
        have b0 : 0 < b := Int.lt_of_mul_lt_mul_left (show n * 0 < n * b by omega) (by omega)
        have ga : 2 * a ≤ n * a := Int.mul_le_mul_of_nonneg_right hn a0
        have gb : 2 * b ≤ n * b := Int.mul_le_mul_of_nonneg_right hn (by omega)
        rw [w64 (x := a) (by omega) (by omega), w64 (x := b) (by omega) (by omega)]
        obtain ⟨A', B', c, e, e1, e2, e3, e4, e5, e6, e7⟩ := ih k (by omega) a b n hn hn2 a0 (by omega) (by omega) (by omega) (by omega) (fun m h1 h2 q => hm m h1 h2 ⟨Int.dvd_trans q.1 (Int.dvd_mul_left ..), Int.dvd_trans q.2 (Int.dvd_mul_left ..)⟩)
        refine ⟨A', B', c * n, e, by rw [e1]; ac_rfl, by rw [e2]; ac_rfl, ?_, e4, e5, e6, e7⟩
        have : 1 * 1 ≤ c * n := Int.mul_le_mul e3 (by omega) (by omega) (by omega)
        omega
      · rw [if_neg c2]
        exact next (fun q => c2 (Int.emod_eq_zero_of_dvd q.1))
    · rw [if_neg c1]
      exact next (fun q => c1 (Int.emod_eq_zero_of_dvd q.2))
end Go.Proofs.Ytencdmcidhojgaa.Pure
