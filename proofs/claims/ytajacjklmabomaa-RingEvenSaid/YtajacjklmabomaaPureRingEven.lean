/- Of outcomes that are good just where a job is mandatory enough are, of each so many. No condition. -/
import Derived.Test.YtajacjklmabomaaQRingEven
import Derived.Test.YtajacjklmabomaaLibRingLaw
namespace Go.Proofs.Ytajacjklmabomaa.Pure
open Go.RowKit Go.Proofs.Ytajacjklmabomaa.P Go.Proofs.YtajacjklmabomaaW.PrintWords Go.Proofs.YtajacjklmabomaaW.PrintLast
set_option linter.unusedVariables false
set_option linter.unusedSimpArgs false
theorem awake200 : fuseelaw03_awake.f 200 = some true := by decide +kernel
theorem upk {m k x : Int} (h1 : 1 ≤ m) (hm : m ≤ k) (hk : k ≤ 6) (hx : 0 ≤ x) :
    pat_of.up x k ≤ pat_of.up (x + m) k ∧ pat_of.up (x + m) k ≤ pat_of.up x k + 1 ∧ pat_of.up (x + k * m) k = pat_of.up x k + m ∧
    ∀ y, pat_of.up (x - k * y) k = pat_of.up x k - y := by
  have : k = 1 ∨ k = 2 ∨ k = 3 ∨ k = 4 ∨ k = 5 ∨ k = 6 := by omega
  unfold pat_of.up
  rcases this with rfl | rfl | rfl | rfl | rfl | rfl <;> refine ⟨by omega, by omega, by omega, fun y => by omega⟩
/-- Whether job number j is mandatory, by its own number. -/
theorem on_own {m k : Int} (h1 : 1 ≤ m) (hm : m ≤ k) (hk : k ≤ 6) {j : Int} (hj : 0 ≤ j) :
    (if pat_of.on m k (j % k) = true then 1 else 0) = pat_of.up ((j + 1) * m) k - pat_of.up (j * m) k := by
  have hx : 0 ≤ j * m := Int.mul_nonneg hj (by omega)
  have e0 : j % k * m = j * m - k * (j / k * m) := by
    have := Int.mul_ediv_add_emod j k
    have e : j % k = j - k * (j / k) := by omega
    rw [e, Int.sub_mul, Int.mul_assoc]
  have e1 : (j % k + 1) * m = (j * m + m) - k * (j / k * m) := by rw [Int.add_mul, Int.one_mul, e0]; omega
  obtain ⟨a, b, _, d⟩ := upk h1 hm hk hx
  obtain ⟨_, _, _, d'⟩ := upk h1 hm hk (show 0 ≤ j * m + m by omega)
  unfold pat_of.on
  rw [e0, e1, d, d', Int.add_mul, Int.one_mul]
  generalize pat_of.up (j * m + m) k = u at *
  generalize pat_of.up (j * m) k = v at *
  by_cases c : v < u
  · rw [if_pos (by simp; omega)]; omega
  · rw [if_neg (by simp; omega)]; omega
/-- Each outcome is good where a job is mandatory. -/
def Cov (m k fr : Int) (L : List Bool) : Prop := ∀ i, (h : i < L.length) → pat_of.on m k ((fr + i) % k) = true → L[i] = true
theorem cov_win {m k fr : Int} (h1 : 1 ≤ m) (hm : m ≤ k) (hk : k ≤ 6) (hf : 0 ≤ fr) {L : List Bool} (hL : Cov m k fr L) (a : Nat) :
    ∀ n : Nat, a + n ≤ L.length → pat_of.up ((fr + a + n) * m) k - pat_of.up ((fr + a) * m) k ≤ (((L.drop a).take n).count true : Nat)
  | 0, _ => by simp
  | n + 1, h => by
    have ih := cov_win h1 hm hk hf hL a n (by omega)
    have hlt : a + n < L.length := by omega
    have hd : n < (L.drop a).length := by rw [List.length_drop]; omega
    have ho := on_own h1 hm hk (j := fr + a + n) (by omega)
    have hg : (L.drop a)[n] = L[a + n] := by rw [List.getElem_drop]
    rw [List.take_succ_eq_append_getElem hd, List.count_append, hg]
    have hq := hL (a + n) hlt
    rw [show fr + ((a + n : Nat) : Int) = fr + a + n by omega] at hq
    rw [show fr + (a : Int) + ((n + 1 : Nat) : Int) = fr + a + n + 1 by omega]
    have hge : (if pat_of.on m k ((fr + a + n) % k) = true then (1 : Int) else 0) ≤ (([L[a + n]].count true : Nat) : Int) := by
      by_cases c : pat_of.on m k ((fr + a + n) % k) = true
      · rw [hq c]; simp [c]
      · rw [if_neg c]; omega
    omega
theorem cov_fine {m k : Nat} {fr : Int} (h1 : 1 ≤ m) (hm : m ≤ k) (hk : k ≤ 6) (hf : 0 ≤ fr) {L : List Bool} (hL : Cov m k fr L) : FineIs L.reverse m k := by
  intro i hi
  rw [List.length_reverse] at hi
  have e : cnt (L.reverse.drop i) k = ((L.drop (L.length - i - k)).take k).count true := by
    unfold cnt
    rw [List.drop_reverse, List.take_reverse, List.count_reverse, List.length_take, List.drop_take, Nat.min_eq_left (by omega)]
    congr 2; omega
  rw [e]
  have w := cov_win (m := (m : Int)) (k := (k : Int)) (by omega) (by omega) (by omega) hf hL (L.length - i - k) k (by omega)
  have hx : 0 ≤ (fr + ((L.length - i - k : Nat) : Int)) * (m : Int) := Int.mul_nonneg (by omega) (by omega)
  have u := (upk (m := (m : Int)) (k := (k : Int)) (by omega) (by omega) (by omega) hx).2.2.1
  rw [Int.add_mul (fr + ((L.length - i - k : Nat) : Int)) k m, u] at w
  omega
theorem cov_snoc {m k fr : Int} {L : List Bool} (hL : Cov m k fr L) {b : Bool} (hb : pat_of.on m k ((fr + L.length) % k) = true → b = true) : Cov m k fr (L ++ [b]) := by
  intro i h ho
  rw [List.length_append, List.length_singleton] at h
  by_cases c : i < L.length
  · rw [List.getElem_append_left c]; exact hL i c ho
  · have : i = L.length := by omega
    subst this
    rw [List.getElem_append_right (by omega)]
    simpa using hb ho
theorem ringEven_loop {m k n : Nat} {fr : Int} (h1 : 1 ≤ m) (hm : m ≤ k) (hk : k ≤ 6) (hn : n ≤ 60) (f0 : 0 ≤ fr) (f1 : fr ≤ 1000000) (more : List Bool) : ∀ (d i f : Nat) (L : List Bool), i + d = n → d + 70 < f → L.length = i → Cov m k fr L →
    fuseelaw03_RingEven.l0 f (m : Int) (k : Int) fr (n : Int) more L (i : Int) = some true
  | 0, i, f, L, hd, hf, hl, hL => by
    obtain ⟨f, rfl⟩ : ∃ x, f = x + 1 := ⟨f - 1, by omega⟩
    have hr : L.reverse.length ≤ 60 := by rw [List.length_reverse]; omega
    have hF := cov_fine h1 hm hk f0 hL
    have hlen : L.reverse.length = n := by rw [List.length_reverse]; omega
    rw [fuseelaw03_RingEven.l0, if_neg (by omega), of_eq, List.take_of_length_le hr]
    generalize L.reverse = t at *
    have hv := view_of hr
    simp only [Option.bind_some]
    obtain ⟨b, hb, hbF⟩ := fine_eq hv h1 hm hk (f := f) (by omega)
    rw [hb, hbF.2 hF]
    simp only [Option.bind_some, if_true]
    by_cases c : n < k
    · rw [if_pos (by omega)]
    · rw [if_neg (by omega), good_eq hv]
      simp only [Option.bind_some]
      rw [Int.toNat_natCast]
      have g := hF 0 (by omega)
      rw [List.drop_zero] at g
      rw [if_pos (by omega)]
      obtain ⟨r, hr2, hrF⟩ := far_eq hv h1 hm hk (f := f) (by omega)
      rw [hr2]
      simp only [Option.bind_some]
      have : r ≠ 0 := fun q => by have := (far_zero hrF (by omega)).1 q; omega
      rw [decide_eq_true (by omega)]
  | d + 1, i, f, L, hd, hf, hl, hL => by
    obtain ⟨f, rfl⟩ : ∃ x, f = x + 1 := ⟨f - 1, by omega⟩
    have ih := fun L' => ringEven_loop h1 hm hk hn f0 f1 more d (i + 1) f L' (by omega) (by omega)
    have hon : pat_On.f (m : Int) (k : Int) (fr + (i : Int)) = some (pat_of.on m k ((fr + L.length) % k)) := by
      unfold pat_On.f
      rw [if_pos ⟨by omega, by omega, by omega, by omega, by omega⟩, hl]
    rw [fuseelaw03_RingEven.l0, if_pos (by omega), w64 (x := fr + (i : Int)) (by omega) (by omega), hon]
    simp only [Option.bind_some]
    rw [w64 (x := (i : Int) + 1) (by omega) (by omega), show ((i : Int) + 1) = ((i + 1 : Nat) : Int) by omega]
    by_cases c : pat_of.on m k ((fr + L.length) % k) = true
    · rw [if_pos c, if_pos (by omega)]
      exact ih _ (by simp; omega) (cov_snoc hL (fun _ => rfl))
    · rw [if_neg c]
      by_cases c2 : (i : Int) < (more.length : Int)
      · rw [if_pos c2, if_pos (by omega), if_pos (by omega)]
        exact ih _ (by simp; omega) (cov_snoc hL (fun q => absurd q c))
      · rw [if_neg c2, if_pos (by omega)]
        exact ih _ (by simp; omega) (cov_snoc hL (fun q => absurd q c))
theorem RingEven : fuseelaw03_RingEven.Pure := by
  intro m' k' fr n more _ _ _ _ _ _
  refine ⟨200, ?_⟩
  unfold fuseelaw03_RingEven.f
  rw [awake200]
  simp only [Option.bind_some, if_true]
  rcases pmay_or m' k' with ⟨m, k, rfl, rfl, h1, hm, hk, hp⟩ | hp
  · rw [hp]
    simp only [Option.bind_some, if_true]
    by_cases c1 : n < 0
    · rw [if_pos c1, fuseelaw03_RingEven.j0, if_pos rfl]
    · rw [if_neg c1]
      by_cases c2 : n > 60
      · rw [if_pos c2, fuseelaw03_RingEven.j0, if_pos rfl]
      · rw [if_neg c2]
        by_cases c3 : fr < 0
        · rw [if_pos c3, fuseelaw03_RingEven.j0, if_pos rfl]
        · rw [if_neg c3]
          by_cases c4 : fr > 1000000
          · rw [decide_eq_true c4, fuseelaw03_RingEven.j0, if_pos rfl]
          · rw [decide_eq_false c4, fuseelaw03_RingEven.j0, if_neg (by decide)]
            obtain ⟨n, rfl⟩ := Int.eq_ofNat_of_zero_le (show 0 ≤ n by omega)
            exact ringEven_loop h1 hm hk (by omega) (by omega) (by omega) more n 0 199 [] (by omega) (by omega) rfl (fun i h => by simp at h)
  · rw [hp]
    simp only [Option.bind_some]
    rw [if_neg (by decide), fuseelaw03_RingEven.j0, if_pos rfl]
end Go.Proofs.Ytajacjklmabomaa.Pure
