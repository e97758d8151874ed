/- A ring that may be is a list of at most sixty outcomes, the last one first; what each function of the ring tells of it. No condition but each lemma's own. -/
import Derived.Test.YtceldebkpjgmkaaPx3
import Derived.Test.YtceldebkpjgmkaaPx4
import Derived.Test.YtceldebkpjgmkaaPx12
import Derived.IntWalk
import Derived.Test.YtceldebkpjgmkaaLibBits
namespace Go.Proofs.Ytceldebkpjgmkaa.Pure
open Go.RowKit Go.Proofs.Ytceldebkpjgmkaa.P Go.Proofs.YtceldebkpjgmkaaW.PrintWords Go.Proofs.YtceldebkpjgmkaaW.PrintLast Go.Proofs.YtceldebkpjgmkaaW.PrintMore
set_option linter.unusedVariables false
set_option linter.unusedSimpArgs false
theorem w64 {x : Int} (h0 : -9223372036854775808 ≤ x) (h1 : x ≤ 9223372036854775807) : wrap64 x = x := by unfold wrap64; omega
theorem u64w {x : Int} (h0 : 0 ≤ x) (h1 : x ≤ 18446744073709551615) : IntKind.u64.wrap x = x := IntWalk.u64_in x ⟨h0, h1⟩
theorem u64m (x : Int) : IntKind.u64.wrap x = x % 18446744073709551616 := by
  simp [IntKind.wrap, IntKind.bits, IntKind.signed]
theorem wf_u64 {x : Int} (h : (Lit.int .u64 x).wf = true) : 0 ≤ x ∧ x ≤ 18446744073709551615 := by
  simp only [Lit.wf, Bool.and_eq_true, decide_eq_true_eq] at h
  exact h
theorem wf_i64' {x : Int} (h : (Lit.int .i64 x).wf = true) : -9223372036854775808 ≤ x ∧ x ≤ 9223372036854775807 := by
  simp only [Lit.wf, Bool.and_eq_true, decide_eq_true_eq] at h
  exact h
theorem ones (x : Nat) (h : x < 18446744073709551616) : bits_OnesCount64.f (x : Int) = some ((pcn 64 x : Nat) : Int) := by
  obtain ⟨y, hy, h2, h1, l0, l1, l2, l3, l4⟩ := swar x h
  have b1 : IntKind.u64.wrap ((Go.bits .and .u64 ((x : Int) / 2) 6148914691236517205) + (Go.bits .and .u64 (x : Int) 6148914691236517205)) = ((p1 6148914691236517205 x : Nat) : Int) := by
    have a1 := bits_and_u64_nat (x / 2) 6148914691236517205 (by omega) (by decide)
    have a2 := bits_and_u64_nat x 6148914691236517205 h (by decide)
    rw [show ((x : Int) / 2) = ((x / 2 : Nat) : Int) by omega, show (6148914691236517205 : Int) = ((6148914691236517205 : Nat) : Int) from rfl, a1, a2]
    rw [u64w (by omega) (by unfold p1 at h1; omega)]
    unfold p1; omega
  have b2 : IntKind.u64.wrap ((Go.bits .and .u64 (((p1 6148914691236517205 x : Nat) : Int) / 4) 3689348814741910323) + (Go.bits .and .u64 ((p1 6148914691236517205 x : Nat) : Int) 3689348814741910323)) = ((p2 3689348814741910323 (p1 6148914691236517205 x) : Nat) : Int) := by
    generalize p1 6148914691236517205 x = z at *
    have a1 := bits_and_u64_nat (z / 4) 3689348814741910323 (by omega) (by decide)
    have a2 := bits_and_u64_nat z 3689348814741910323 (by omega) (by decide)
    rw [show ((z : Int) / 4) = ((z / 4 : Nat) : Int) by omega, show (3689348814741910323 : Int) = ((3689348814741910323 : Nat) : Int) from rfl, a1, a2]
    rw [u64w (by omega) (by unfold p2 at h2; omega)]
    unfold p2; omega
  have b3 : Go.bits .and .u64 (IntKind.u64.wrap (((p2 3689348814741910323 (p1 6148914691236517205 x) : Nat) : Int) / 16 + ((p2 3689348814741910323 (p1 6148914691236517205 x) : Nat) : Int))) 1085102592571150095 = (y : Int) := by
    rw [← hy]
    generalize p2 3689348814741910323 (p1 6148914691236517205 x) = z at *
    rw [u64w (by omega) (by omega), show ((z : Int) / 16 + z) = ((z / 16 + z : Nat) : Int) by omega, show (1085102592571150095 : Int) = ((1085102592571150095 : Nat) : Int) from rfl, bits_and_u64_nat _ _ (by omega) (by decide)]
    rfl
  have b4 : IntKind.u64.wrap ((y : Int) + (y : Int) / 256) = ((y + y / 256 : Nat) : Int) := by rw [u64w (by omega) (by omega)]; omega
  have b5 : IntKind.u64.wrap (((y + y / 256 : Nat) : Int) + ((y + y / 256 : Nat) : Int) / 65536) = (((y + y / 256) + (y + y / 256) / 65536 : Nat) : Int) := by
    generalize y + y / 256 = z at *
    rw [u64w (by omega) (by omega)]; omega
  have b6 : IntKind.u64.wrap ((((y + y / 256) + (y + y / 256) / 65536 : Nat) : Int) + (((y + y / 256) + (y + y / 256) / 65536 : Nat) : Int) / 4294967296) = ((fold8 y : Nat) : Int) := by
    unfold fold8 at l3 ⊢
    generalize (y + y / 256) + (y + y / 256) / 65536 = z at *
    rw [u64w (by omega) (by omega)]; omega
  unfold bits_OnesCount64.f
  rw [b1, b2, b3, b4, b5, b6, w64 (by omega) (by omega), ← l4]
  have hb := Go.bits_mask .i64 63 (by decide) (fun n h0 h1 => IntWalk.i64_in n ⟨by omega, by omega⟩) 7 (by decide) ((fold8 y : Nat) : Int) (by omega) (by omega)
  rw [show (127 : Int) = 2 ^ 7 - 1 from rfl, hb]
  congr 1
theorem mask_eq {n : Nat} (h : n ≤ 60) : ring_mask.f (n : Int) = some ((2 ^ n - 1 : Nat) : Int) := by
  unfold ring_mask.f shl
  have hp : 2 ^ n ≤ 2 ^ 60 := Nat.pow_le_pow_right (by decide) h
  have h0 := Nat.two_pow_pos n
  have e : min ((n : Int)).toNat (IntKind.u64).bits = n := by
    rw [Int.toNat_natCast]; exact Nat.min_eq_left (by show n ≤ 64; omega)
  have e2 : (1 : Int) * 2 ^ n = ((2 ^ n : Nat) : Int) := by rw [Int.one_mul]; exact (Int.natCast_pow 2 n).symm
  rw [if_pos (by omega), e, e2, u64w (x := ((2 ^ n : Nat) : Int)) (by omega) (by omega), u64w (by omega) (by omega)]
  congr 1; omega
/-- How many of the n last ones are good. -/
def cnt (t : List Bool) (n : Nat) : Nat := (t.take n).count true
theorem V_lt60 {t : List Bool} (h : t.length ≤ 60) : V t < 1152921504606846976 :=
  Nat.lt_of_lt_of_le (V_lt t) (Nat.le_trans (Nat.pow_le_pow_right (by decide) h) (by decide))
theorem V_lt64 {t : List Bool} (h : t.length ≤ 64) : V t < 18446744073709551616 :=
  Nat.lt_of_lt_of_le (V_lt t) (Nat.le_trans (Nat.pow_le_pow_right (by decide) h) (by decide))
theorem land_mask (x n : Nat) : x &&& (2 ^ n - 1) = x % 2 ^ n := Nat.and_two_pow_sub_one_eq_mod x n
theorem count_low {t : List Bool} (h : t.length ≤ 64) {n : Nat} (hn : n ≤ 60) : bits_OnesCount64.f (Go.bits .and .u64 ((V t : Nat) : Int) ((2 ^ n - 1 : Nat) : Int)) = some ((cnt t n : Nat) : Int) := by
  have hp : 2 ^ n ≤ 2 ^ 60 := Nat.pow_le_pow_right (by decide) hn
  rw [bits_and_u64_nat _ _ (V_lt64 h) (by omega), land_mask, V_take, ones _ (V_lt64 (by rw [List.length_take]; omega)), pcn_V 64 _ (by rw [List.length_take]; omega)]
  rfl
/-- The outcomes that a ring is read as, the last one first. -/
def View (N B : Int) (t : List Bool) : Prop := ring_of.f N B = some ((t.length : Int), ((V t : Nat) : Int)) ∧ t.length ≤ 60
theorem shr_nat (x n : Nat) (h : n ≤ 64) : shr .u64 (x : Int) (n : Int) = ((x / 2 ^ n : Nat) : Int) := by
  unfold shr
  have e : min ((n : Int)).toNat (IntKind.u64).bits = n := by
    rw [Int.toNat_natCast]; exact Nat.min_eq_left h
  rw [e]
  have : ((2 : Int) ^ n) = ((2 ^ n : Nat) : Int) := (Int.natCast_pow 2 n).symm
  rw [this, Int.natCast_ediv]
theorem may_yes {t : List Bool} (h : t.length ≤ 60) : ring_May.f (t.length : Int) ((V t : Nat) : Int) = some true := by
  unfold ring_May.f
  rw [if_pos (by omega), if_pos (by omega), if_pos (by omega), shr_nat _ _ (by omega), V_drop, List.drop_of_length_le (Nat.le_refl _)]
  rfl
theorem may_or {N B : Int} (h : 0 ≤ B) : (∃ t : List Bool, t.length ≤ 60 ∧ N = t.length ∧ B = ((V t : Nat) : Int)) ∨ ring_May.f N B = some false := by
  unfold ring_May.f
  by_cases c1 : N ≥ 0
  · by_cases c2 : N ≤ 60
    · rw [if_pos c1, if_pos c2, if_pos c1]
      obtain ⟨n, rfl⟩ := Int.eq_ofNat_of_zero_le c1
      obtain ⟨b, rfl⟩ := Int.eq_ofNat_of_zero_le h
      rw [shr_nat _ _ (by omega)]
      by_cases c3 : b / 2 ^ n = 0
      · refine .inl ?_
        have : b < 2 ^ n := by
          rcases Nat.div_eq_zero_iff.1 c3 with q | q
          · exact absurd q (Nat.pos_iff_ne_zero.1 (Nat.two_pow_pos n))
          · exact q
        obtain ⟨t, ht, hv⟩ := V_of n b this
        exact ⟨t, by omega, by omega, by rw [hv]⟩
      · refine .inr ?_
        have : ((((b / 2 ^ n : Nat) : Int) == 0)) = false := by
          rw [beq_eq_false_iff_ne]; omega
        rw [this]
    · rw [if_pos c1, if_neg c2]; exact .inr rfl
  · rw [if_neg c1]; exact .inr rfl
theorem view_of {t : List Bool} (h : t.length ≤ 60) : View (t.length : Int) ((V t : Nat) : Int) t := by
  refine ⟨?_, h⟩
  unfold ring_of.f
  rw [may_yes h]; rfl
theorem view_no {N B : Int} (h : ring_May.f N B = some false) : View N B [] := by
  refine ⟨?_, by decide⟩
  unfold ring_of.f
  rw [h]; rfl
theorem view_any {N B : Int} (h : 0 ≤ B) : ∃ t, View N B t := by
  rcases may_or (N := N) h with ⟨t, ht, rfl, rfl⟩ | h
  · exact ⟨t, view_of ht⟩
  · exact ⟨[], view_no h⟩
theorem or_one (x : Nat) (h : x % 2 = 0) : x ||| 1 = x + 1 := by
  have := Nat.two_pow_add_eq_or_of_lt (i := 1) (b := 1) (by decide) (x / 2)
  rw [show 2 ^ 1 * (x / 2) = x by omega] at this
  exact this.symm
theorem put_eq {N B : Int} {t : List Bool} (h : View N B t) (good : Bool) :
    ring_Put.f N B good = some ((((good :: t).take 60).length : Int), ((V ((good :: t).take 60) : Nat) : Int)) := by
  obtain ⟨h, hl⟩ := h
  unfold ring_Put.f
  have hm := mask_eq (n := 60) (Nat.le_refl _)
  rw [show ((60 : Nat) : Int) = 60 from rfl] at hm
  rw [h, hm]
  simp only [Option.bind_some]
  have hv := V_lt60 hl
  have e1 : mn (wrap64 ((t.length : Int) + 1)) 60 = (((good :: t).take 60).length : Int) := by
    rw [w64 (by omega) (by omega), List.length_take, List.length_cons]
    unfold mn; split <;> omega
  have e2 : Go.bits .and .u64 (IntKind.u64.wrap (((V t : Nat) : Int) * 2)) ((2 ^ 60 - 1 : Nat) : Int) = ((V ((false :: t).take 60) : Nat) : Int) := by
    rw [u64w (by omega) (by omega), show ((V t : Nat) : Int) * 2 = ((2 * V t : Nat) : Int) by omega, bits_and_u64_nat _ _ (by omega) (by decide), land_mask, ← V_take]
    simp [V]
  have e3 : V ((true :: t).take 60) = V ((false :: t).take 60) + 1 := by simp [V]; omega
  have e4 : V ((false :: t).take 60) % 2 = 0 := by simp [V]
  have e5 : V ((false :: t).take 60) < 1152921504606846976 := V_lt60 (by rw [List.length_take]; omega)
  rw [e1, e2]
  cases good with
  | false => rfl
  | true =>
    rw [if_pos rfl, show (1 : Int) = ((1 : Nat) : Int) from rfl, bits_or_u64_nat _ _ (by omega) (by decide), or_one _ e4, e3]
theorem put_view {N B : Int} {t : List Bool} (h : View N B t) (good : Bool) :
    ∃ p, ring_Put.f N B good = some p ∧ View p.1 p.2 ((good :: t).take 60) ∧ p = ((((good :: t).take 60).length : Int), ((V ((good :: t).take 60) : Nat) : Int)) :=
  ⟨_, put_eq h good, view_of (by rw [List.length_take]; omega), rfl⟩
theorem pmay_or (m k : Int) : (∃ a b : Nat, m = a ∧ k = b ∧ 1 ≤ a ∧ a ≤ b ∧ b ≤ 6 ∧ pat_May.f m k = some true) ∨ pat_May.f m k = some false := by
  unfold pat_May.f
  by_cases c1 : m ≥ 1
  · by_cases c2 : m ≤ k
    · rw [if_pos c1, if_pos c2]
      by_cases c3 : k ≤ 6
      · exact .inl ⟨m.toNat, k.toNat, by omega, by omega, by omega, by omega, by omega, by rw [decide_eq_true c3]⟩
      · exact .inr (by rw [decide_eq_false c3])
    · rw [if_pos c1, if_neg c2]; exact .inr rfl
  · rw [if_neg c1]; exact .inr rfl
/-- With k good ones ahead of all. -/
def ahd (t : List Bool) (k : Nat) : List Bool := t ++ List.replicate k true
/-- How far it is from too few: r bad ones are enough, fewer are not. -/
def FarIs (t : List Bool) (m k r : Nat) : Prop := r ≤ k ∧ cnt (ahd t k) (k - r) < m ∧ ∀ n < r, m ≤ cnt (ahd t k) (k - n)
theorem far_word {t : List Bool} (h : t.length ≤ 60) {k : Nat} (hk : k ≤ 6) : ∃ s : List Bool, s.length ≤ 64 ∧ (∀ j ≤ k, s.take j = (ahd t k).take j) ∧
    Go.bits .or .u64 ((V t : Nat) : Int) (shl .u64 ((2 ^ k - 1 : Nat) : Int) (t.length : Int)) = ((V s : Nat) : Int) := by
  refine ⟨t ++ List.replicate (min k (64 - t.length)) true, by simp; omega, ?_, ?_⟩
  · intro j hj
    unfold ahd
    rw [List.take_append, List.take_append, List.take_replicate, List.take_replicate]
    congr 2; omega
  · have hv := V_lt t
    have hv2 := V_lt60 h
    have e1 : shl .u64 ((2 ^ k - 1 : Nat) : Int) (t.length : Int) = ((2 ^ t.length * V (List.replicate (min k (64 - t.length)) true) : Nat) : Int) := by
      unfold shl
      have e : min ((t.length : Int)).toNat (IntKind.u64).bits = t.length := by
        rw [Int.toNat_natCast]; exact Nat.min_eq_left (by show t.length ≤ 64; omega)
      have : ((2 : Int) ^ t.length) = ((2 ^ t.length : Nat) : Int) := (Int.natCast_pow 2 _).symm
      rw [e, this, u64m, ← V_true, show List.replicate (min k (64 - t.length)) true = (List.replicate k true).take (64 - t.length) by rw [List.take_replicate, Nat.min_comm], ← V_take]
      have e64 : (18446744073709551616 : Nat) = 2 ^ t.length * 2 ^ (64 - t.length) := by rw [← Nat.pow_add, show t.length + (64 - t.length) = 64 by omega]
      have e3 : 2 ^ t.length * (V (List.replicate k true) % 2 ^ (64 - t.length)) = (2 ^ t.length * V (List.replicate k true)) % 18446744073709551616 := by
        rw [e64, Nat.mul_mod_mul_left]
      rw [e3, Nat.mul_comm]
      omega
    have e2 : 2 ^ t.length * V (List.replicate (min k (64 - t.length)) true) + V t = V (t ++ List.replicate (min k (64 - t.length)) true) := by
      rw [V_append]; omega
    have hs : V (t ++ List.replicate (min k (64 - t.length)) true) < 18446744073709551616 := V_lt64 (by simp; omega)
    rw [e1, bits_or_u64_nat _ _ (by omega) (by omega), Nat.or_comm, ← Nat.two_pow_add_eq_or_of_lt hv, e2]
theorem far_loop {s t : List Bool} (hs : s.length ≤ 64) {m k : Nat} (hk : k ≤ 6) (hm : m ≤ k) (h1 : 1 ≤ m) (hst : ∀ j ≤ k, s.take j = (ahd t k).take j) :
    ∀ (d n f : Nat), n + d = k → d < f → (∀ i < n, m ≤ cnt (ahd t k) (k - i)) → ∃ r : Nat, ring_Far.l0 f (m : Int) (k : Int) ((V s : Nat) : Int) (k : Int) (n : Int) = some (r : Int) ∧ FarIs t m k r
  | 0, n, f, hd, hf, hn => by
    obtain ⟨f, rfl⟩ : ∃ x, f = x + 1 := ⟨f - 1, by omega⟩
    refine ⟨k, ?_, Nat.le_refl _, by rw [Nat.sub_self]; show 0 < m; omega, fun i hi => hn i (by omega)⟩
    rw [ring_Far.l0, if_neg (by omega)]
  | d + 1, n, f, hd, hf, hn => by
    obtain ⟨f, rfl⟩ : ∃ x, f = x + 1 := ⟨f - 1, by omega⟩
    rw [ring_Far.l0, if_pos (by omega), w64 (x := (k : Int) - n) (by omega) (by omega), show ((k : Int) - n) = ((k - n : Nat) : Int) by omega, mask_eq (by omega), Option.bind_some]
    rw [count_low (t := s) (n := k - n) hs (by omega)]
    simp only [Option.bind_some]
    have e : cnt s (k - n) = cnt (ahd t k) (k - n) := by unfold cnt; rw [hst _ (by omega)]
    rw [e]
    by_cases c : cnt (ahd t k) (k - n) < m
    · exact ⟨n, by rw [if_pos (by omega)], by omega, c, hn⟩
    · rw [if_neg (by omega), w64 (by omega) (by omega), show ((n : Int) + 1) = ((n + 1 : Nat) : Int) by omega]
      refine far_loop hs hk hm h1 hst d (n + 1) f (by omega) (by omega) fun i hi => ?_
      rcases Nat.lt_succ_iff_lt_or_eq.1 hi with q | q
      · exact hn i q
      · subst q; omega
theorem far_eq {N B : Int} {t : List Bool} (h : View N B t) {m k : Nat} (h1 : 1 ≤ m) (hm : m ≤ k) (hk : k ≤ 6) {f : Nat} (hf : 7 ≤ f) :
    ∃ r : Nat, ring_Far.f f N B (m : Int) (k : Int) = some (r : Int) ∧ FarIs t m k r := by
  obtain ⟨h, hl⟩ := h
  unfold ring_Far.f
  have hp : pat_May.f (m : Int) (k : Int) = some true := by
    unfold pat_May.f; rw [if_pos (by omega), if_pos (by omega), decide_eq_true (by omega)]
  rw [h, hp]
  simp only [Option.bind_some, if_true]
  rw [mask_eq (by omega)]
  simp only [Option.bind_some]
  obtain ⟨s, hs, hst, e⟩ := far_word hl hk
  rw [if_pos (by omega), e]
  exact far_loop hs hk hm h1 hst k 0 f (by omega) (by omega) (fun i hi => by omega)
theorem FarIs.unique {t : List Bool} {m k r r' : Nat} (h : FarIs t m k r) (h' : FarIs t m k r') : r = r' := by
  rcases Nat.lt_trichotomy r r' with q | q | q
  · have := h'.2.2 r q; have := h.2.1; omega
  · exact q
  · have := h.2.2 r' q; have := h'.2.1; omega
theorem cnt_zero (s : List Bool) : cnt s 0 = 0 := rfl
theorem cnt_succ (s : List Bool) (j : Nat) : cnt s (j + 1) = cnt s j + (s[j]?.toList).count true := by
  unfold cnt; rw [List.take_add_one, List.count_append]
theorem cnt_step (s : List Bool) (j : Nat) : cnt s j ≤ cnt s (j + 1) ∧ cnt s (j + 1) ≤ cnt s j + 1 := by
  rw [cnt_succ]
  have : (s[j]?.toList).count true ≤ 1 := by
    cases s[j]? with
    | none => simp
    | some b => cases b <;> simp
  omega
theorem cnt_mono (s : List Bool) : ∀ (d j : Nat), cnt s j ≤ cnt s (j + d)
  | 0, j => Nat.le_refl _
  | d + 1, j => by have := cnt_mono s d j; have := (cnt_step s (j + d)).1; rw [show j + (d + 1) = j + d + 1 by omega]; omega
theorem cnt_le (s : List Bool) : ∀ j : Nat, cnt s j ≤ j
  | 0 => Nat.le_refl _
  | j + 1 => by have := cnt_le s j; have := (cnt_step s j).2; omega
theorem ahd_take (L : List Bool) (k j : Nat) (h : j ≤ 60) : (ahd (L.take 60) k).take j = (ahd L k).take j := by
  unfold ahd
  rw [List.take_append, List.take_append, List.take_take, List.length_take, Nat.min_eq_left h, List.take_replicate, List.take_replicate]
  by_cases c : L.length ≤ 60
  · rw [Nat.min_eq_right c]
  · congr 2; omega
theorem ahd_cnt (L : List Bool) (k j : Nat) (h : j ≤ 60) : cnt (ahd (L.take 60) k) j = cnt (ahd L k) j := by
  unfold cnt; rw [ahd_take L k j h]
theorem ahd_cons (b : Bool) (t : List Bool) (k j : Nat) : cnt (ahd (b :: t) k) (j + 1) = b.toNat + cnt (ahd t k) j := by
  unfold cnt ahd
  rw [List.cons_append, List.take_succ_cons, List.count_cons]
  cases b <;> simp [Nat.add_comm]
theorem far_bad {t : List Bool} {m k n : Nat} (h1 : 1 ≤ m) (hm : m ≤ k) (hk : k ≤ 6) (h : FarIs t m k n) : FarIs ((false :: t).take 60) m k (n - 1) := by
  obtain ⟨a, b, c⟩ := h
  refine ⟨by omega, ?_, fun i hi => ?_⟩
  · rw [ahd_cnt _ _ _ (by omega)]
    by_cases q : n = 0
    · subst q
      obtain ⟨j, hj⟩ : ∃ j, k = j + 1 := ⟨k - 1, by omega⟩
      have e1 : k - (0 - 1) = j + 1 := by omega
      rw [e1, ahd_cons]
      have := (cnt_step (ahd t k) j).1
      have e2 : k - 0 = j + 1 := by omega
      rw [e2] at b
      simp; omega
    · rw [show k - (n - 1) = (k - n) + 1 by omega, ahd_cons]; simpa using b
  · rw [ahd_cnt _ _ _ (by omega), show k - i = (k - (i + 1)) + 1 by omega, ahd_cons]
    have := c (i + 1) (by omega)
    omega
theorem far_good {t : List Bool} {m k n n' : Nat} (h1 : 1 ≤ m) (hm : m ≤ k) (hk : k ≤ 6) (h : FarIs t m k n) (h' : FarIs ((true :: t).take 60) m k n') : n ≤ n' := by
  refine Nat.not_lt.1 fun q => ?_
  have b := h'.2.1
  have := h.1
  rw [ahd_cnt _ _ _ (by omega), show k - n' = (k - n' - 1) + 1 by omega, ahd_cons] at b
  have c := h.2.2 n' q
  have d := (cnt_step (ahd t k) (k - n' - 1)).2
  rw [show k - n' - 1 + 1 = k - n' by omega] at d
  simp at b
  omega
end Go.Proofs.Ytceldebkpjgmkaa.Pure
