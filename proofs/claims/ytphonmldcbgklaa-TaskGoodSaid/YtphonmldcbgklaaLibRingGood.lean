/- A ring that may be is a list of at most sixty outcomes, the last one first; what each function of the ring tells of it. No condition but each lemma's own. -/
import Derived.Test.YtphonmldcbgklaaPx9
import Derived.Test.YtphonmldcbgklaaPx17
import Derived.Test.YtphonmldcbgklaaPx18
import Derived.IntWalk
import Derived.Test.YtphonmldcbgklaaLibNum
import Derived.Test.YtphonmldcbgklaaLibBits
namespace Go.Proofs.Ytphonmldcbgklaa.Pure
open Go.RowKit Go.Proofs.Ytphonmldcbgklaa.P Go.Proofs.YtphonmldcbgklaaW.PrintWords Go.Proofs.YtphonmldcbgklaaW.PrintLast Go.Proofs.YtphonmldcbgklaaW.PrintMore
set_option linter.unusedVariables false
set_option linter.unusedSimpArgs false
theorem u64w {x : Int} (h0 : 0 ≤ x) (h1 : x ≤ 18446744073709551615) : IntKind.u64.wrap x = x := IntWalk.u64_in x ⟨h0, h1⟩
theorem u64m (x : Int) : IntKind.u64.wrap x = x % 18446744073709551616 := by
  simp [IntKind.wrap, IntKind.bits, IntKind.signed]
theorem wf_u64 {x : Int} (h : (Lit.int .u64 x).wf = true) : 0 ≤ x ∧ x ≤ 18446744073709551615 := by
  simp only [Lit.wf, Bool.and_eq_true, decide_eq_true_eq] at h
  exact h
theorem ones (x : Nat) (h : x < 18446744073709551616) : bits_OnesCount64.f (x : Int) = some ((pcn 64 x : Nat) : Int) := by
  obtain ⟨y, hy, h2, h1, l0, l1, l2, l3, l4⟩ := swar x h
  have b1 : IntKind.u64.wrap ((Go.bits .and .u64 ((x : Int) / 2) 6148914691236517205) + (Go.bits .and .u64 (x : Int) 6148914691236517205)) = ((p1 6148914691236517205 x : Nat) : Int) := by
    have a1 := bits_and_u64_nat (x / 2) 6148914691236517205 (by omega) (by decide)
    have a2 := bits_and_u64_nat x 6148914691236517205 h (by decide)
    rw [show ((x : Int) / 2) = ((x / 2 : Nat) : Int) by omega, show (6148914691236517205 : Int) = ((6148914691236517205 : Nat) : Int) from rfl, a1, a2]
    rw [u64w (by omega) (by unfold p1 at h1; omega)]
    unfold p1; omega
  have b2 : IntKind.u64.wrap ((Go.bits .and .u64 (((p1 6148914691236517205 x : Nat) : Int) / 4) 3689348814741910323) + (Go.bits .and .u64 ((p1 6148914691236517205 x : Nat) : Int) 3689348814741910323)) = ((p2 3689348814741910323 (p1 6148914691236517205 x) : Nat) : Int) := by
    generalize p1 6148914691236517205 x = z at *
    have a1 := bits_and_u64_nat (z / 4) 3689348814741910323 (by omega) (by decide)
    have a2 := bits_and_u64_nat z 3689348814741910323 (by omega) (by decide)
    rw [show ((z : Int) / 4) = ((z / 4 : Nat) : Int) by omega, show (3689348814741910323 : Int) = ((3689348814741910323 : Nat) : Int) from rfl, a1, a2]
    rw [u64w (by omega) (by unfold p2 at h2; omega)]
    unfold p2; omega
  have b3 : Go.bits .and .u64 (IntKind.u64.wrap (((p2 3689348814741910323 (p1 6148914691236517205 x) : Nat) : Int) / 16 + ((p2 3689348814741910323 (p1 6148914691236517205 x) : Nat) : Int))) 1085102592571150095 = (y : Int) := by
    rw [← hy]
    generalize p2 3689348814741910323 (p1 6148914691236517205 x) = z at *
    rw [u64w (by omega) (by omega), show ((z : Int) / 16 + z) = ((z / 16 + z : Nat) : Int) by omega, show (1085102592571150095 : Int) = ((1085102592571150095 : Nat) : Int) from rfl, bits_and_u64_nat _ _ (by omega) (by decide)]
    rfl
  have b4 : IntKind.u64.wrap ((y : Int) + (y : Int) / 256) = ((y + y / 256 : Nat) : Int) := by rw [u64w (by omega) (by omega)]; omega
  have b5 : IntKind.u64.wrap (((y + y / 256 : Nat) : Int) + ((y + y / 256 : Nat) : Int) / 65536) = (((y + y / 256) + (y + y / 256) / 65536 : Nat) : Int) := by
    generalize y + y / 256 = z at *
    rw [u64w (by omega) (by omega)]; omega
  have b6 : IntKind.u64.wrap ((((y + y / 256) + (y + y / 256) / 65536 : Nat) : Int) + (((y + y / 256) + (y + y / 256) / 65536 : Nat) : Int) / 4294967296) = ((fold8 y : Nat) : Int) := by
    unfold fold8 at l3 ⊢
    generalize (y + y / 256) + (y + y / 256) / 65536 = z at *
    rw [u64w (by omega) (by omega)]; omega
  unfold bits_OnesCount64.f
  rw [b1, b2, b3, b4, b5, b6, w64 (by omega) (by omega), ← l4]
  have hb := Go.bits_mask .i64 63 (by decide) (fun n h0 h1 => IntWalk.i64_in n ⟨by omega, by omega⟩) 7 (by decide) ((fold8 y : Nat) : Int) (by omega) (by omega)
  rw [show (127 : Int) = 2 ^ 7 - 1 from rfl, hb]
  congr 1
theorem mask_eq {n : Nat} (h : n ≤ 60) : ring_mask.f (n : Int) = some ((2 ^ n - 1 : Nat) : Int) := by
  unfold ring_mask.f shl
  have hp : 2 ^ n ≤ 2 ^ 60 := Nat.pow_le_pow_right (by decide) h
  have h0 := Nat.two_pow_pos n
  have e : min ((n : Int)).toNat (IntKind.u64).bits = n := by
    rw [Int.toNat_natCast]; exact Nat.min_eq_left (by show n ≤ 64; omega)
  have e2 : (1 : Int) * 2 ^ n = ((2 ^ n : Nat) : Int) := by rw [Int.one_mul]; exact (Int.natCast_pow 2 n).symm
  rw [if_pos (by omega), e, e2, u64w (x := ((2 ^ n : Nat) : Int)) (by omega) (by omega), u64w (by omega) (by omega)]
  congr 1; omega
def cnt (t : List Bool) (n : Nat) : Nat := (t.take n).count true
theorem V_lt60 {t : List Bool} (h : t.length ≤ 60) : V t < 1152921504606846976 :=
  Nat.lt_of_lt_of_le (V_lt t) (Nat.le_trans (Nat.pow_le_pow_right (by decide) h) (by decide))
theorem V_lt64 {t : List Bool} (h : t.length ≤ 64) : V t < 18446744073709551616 :=
  Nat.lt_of_lt_of_le (V_lt t) (Nat.le_trans (Nat.pow_le_pow_right (by decide) h) (by decide))
theorem land_mask (x n : Nat) : x &&& (2 ^ n - 1) = x % 2 ^ n := Nat.and_two_pow_sub_one_eq_mod x n
theorem count_low {t : List Bool} (h : t.length ≤ 64) {n : Nat} (hn : n ≤ 60) : bits_OnesCount64.f (Go.bits .and .u64 ((V t : Nat) : Int) ((2 ^ n - 1 : Nat) : Int)) = some ((cnt t n : Nat) : Int) := by
  have hp : 2 ^ n ≤ 2 ^ 60 := Nat.pow_le_pow_right (by decide) hn
  rw [bits_and_u64_nat _ _ (V_lt64 h) (by omega), land_mask, V_take, ones _ (V_lt64 (by rw [List.length_take]; omega)), pcn_V 64 _ (by rw [List.length_take]; omega)]
  rfl
def View (N B : Int) (t : List Bool) : Prop := ring_of.f N B = some ((t.length : Int), ((V t : Nat) : Int)) ∧ t.length ≤ 60
theorem shr_nat (x n : Nat) (h : n ≤ 64) : shr .u64 (x : Int) (n : Int) = ((x / 2 ^ n : Nat) : Int) := by
  unfold shr
  have e : min ((n : Int)).toNat (IntKind.u64).bits = n := by
    rw [Int.toNat_natCast]; exact Nat.min_eq_left h
  rw [e]
  have : ((2 : Int) ^ n) = ((2 ^ n : Nat) : Int) := (Int.natCast_pow 2 n).symm
  rw [this, Int.natCast_ediv]
theorem may_yes {t : List Bool} (h : t.length ≤ 60) : ring_May.f (t.length : Int) ((V t : Nat) : Int) = some true := by
  unfold ring_May.f
  rw [if_pos (by omega), if_pos (by omega), if_pos (by omega), shr_nat _ _ (by omega), V_drop, List.drop_of_length_le (Nat.le_refl _)]
  rfl
theorem may_or {N B : Int} (h : 0 ≤ B) : (∃ t : List Bool, t.length ≤ 60 ∧ N = t.length ∧ B = ((V t : Nat) : Int)) ∨ ring_May.f N B = some false := by
  unfold ring_May.f
  by_cases c1 : N ≥ 0
  · by_cases c2 : N ≤ 60
    · rw [if_pos c1, if_pos c2, if_pos c1]
      obtain ⟨n, rfl⟩ := Int.eq_ofNat_of_zero_le c1
      obtain ⟨b, rfl⟩ := Int.eq_ofNat_of_zero_le h
      rw [shr_nat _ _ (by omega)]
      by_cases c3 : b / 2 ^ n = 0
      · refine .inl ?_
        have : b < 2 ^ n := by
          rcases Nat.div_eq_zero_iff.1 c3 with q | q
          · exact absurd q (Nat.pos_iff_ne_zero.1 (Nat.two_pow_pos n))
          · exact q
        obtain ⟨t, ht, hv⟩ := V_of n b this
        exact ⟨t, by omega, by omega, by rw [hv]⟩
      · refine .inr ?_
        have : ((((b / 2 ^ n : Nat) : Int) == 0)) = false := by
          rw [beq_eq_false_iff_ne]; omega
        rw [this]
    · rw [if_pos c1, if_neg c2]; exact .inr rfl
  · rw [if_neg c1]; exact .inr rfl
theorem view_of {t : List Bool} (h : t.length ≤ 60) : View (t.length : Int) ((V t : Nat) : Int) t := by
  refine ⟨?_, h⟩
  unfold ring_of.f
  rw [may_yes h]; rfl
theorem view_no {N B : Int} (h : ring_May.f N B = some false) : View N B [] := by
  refine ⟨?_, by decide⟩
  unfold ring_of.f
  rw [h]; rfl
theorem view_any {N B : Int} (h : 0 ≤ B) : ∃ t, View N B t := by
  rcases may_or (N := N) h with ⟨t, ht, rfl, rfl⟩ | h
  · exact ⟨t, view_of ht⟩
  · exact ⟨[], view_no h⟩
theorem or_one (x : Nat) (h : x % 2 = 0) : x ||| 1 = x + 1 := by
  have := Nat.two_pow_add_eq_or_of_lt (i := 1) (b := 1) (by decide) (x / 2)
  rw [show 2 ^ 1 * (x / 2) = x by omega] at this
  exact this.symm
theorem put_eq {N B : Int} {t : List Bool} (h : View N B t) (good : Bool) :
    ring_Put.f N B good = some ((((good :: t).take 60).length : Int), ((V ((good :: t).take 60) : Nat) : Int)) := by
  obtain ⟨h, hl⟩ := h
  unfold ring_Put.f
  have hm := mask_eq (n := 60) (Nat.le_refl _)
  rw [show ((60 : Nat) : Int) = 60 from rfl] at hm
  rw [h, hm]
  simp only [Option.bind_some]
  have hv := V_lt60 hl
  have e1 : mn (wrap64 ((t.length : Int) + 1)) 60 = (((good :: t).take 60).length : Int) := by
    rw [w64 (by omega) (by omega), List.length_take, List.length_cons]
    unfold mn; split <;> omega
  have e2 : Go.bits .and .u64 (IntKind.u64.wrap (((V t : Nat) : Int) * 2)) ((2 ^ 60 - 1 : Nat) : Int) = ((V ((false :: t).take 60) : Nat) : Int) := by
    rw [u64w (by omega) (by omega), show ((V t : Nat) : Int) * 2 = ((2 * V t : Nat) : Int) by omega, bits_and_u64_nat _ _ (by omega) (by decide), land_mask, ← V_take]
    simp [V]
  have e3 : V ((true :: t).take 60) = V ((false :: t).take 60) + 1 := by simp [V]; omega
  have e4 : V ((false :: t).take 60) % 2 = 0 := by simp [V]
  have e5 : V ((false :: t).take 60) < 1152921504606846976 := V_lt60 (by rw [List.length_take]; omega)
  rw [e1, e2]
  cases good with
  | false => rfl
  | true =>
    rw [if_pos rfl, show (1 : Int) = ((1 : Nat) : Int) from rfl, bits_or_u64_nat _ _ (by omega) (by decide), or_one _ e4, e3]
theorem put_view {N B : Int} {t : List Bool} (h : View N B t) (good : Bool) :
    ∃ p, ring_Put.f N B good = some p ∧ View p.1 p.2 ((good :: t).take 60) ∧ p = ((((good :: t).take 60).length : Int), ((V ((good :: t).take 60) : Nat) : Int)) :=
  ⟨_, put_eq h good, view_of (by rw [List.length_take]; omega), rfl⟩
theorem good_eq {N B : Int} {t : List Bool} (h : View N B t) (n : Int) : ring_Good.f N B n = some ((cnt t n.toNat : Nat) : Int) := by
  obtain ⟨h, hl⟩ := h
  unfold ring_Good.f
  rw [h]
  simp only [Option.bind_some]
  have e : mn (mx n 0) (t.length : Int) = ((min n.toNat t.length : Nat) : Int) := by
    unfold mn mx; split <;> split <;> omega
  rw [e, mask_eq (by omega), Option.bind_some]
  rw [count_low (t := t) (n := min n.toNat t.length) (by omega) (by omega)]
  simp only [Option.bind_some]
  unfold cnt
  rw [show t.take (min n.toNat t.length) = t.take n.toNat by
    rw [← List.take_take, List.take_length]]
end Go.Proofs.Ytphonmldcbgklaa.Pure
