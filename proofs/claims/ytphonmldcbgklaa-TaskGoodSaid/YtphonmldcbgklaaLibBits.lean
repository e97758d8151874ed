/- Plain laws of bits: a number as the list of its bits, the lowest first; how many are set; the count of bits eight at a time. No condition but each lemma's own. -/
import Derived.Laws.Bits64b
namespace Go.Proofs.Ytphonmldcbgklaa.Pure
set_option linter.unusedVariables false
set_option linter.unusedSimpArgs false
/-- The number of a list of bits, the lowest first. -/
def V : List Bool → Nat
  | [] => 0
  | b :: t => b.toNat + 2 * V t
/-- How many of the k lowest bits are set. -/
def pcn : Nat → Nat → Nat
  | 0, _ => 0
  | k + 1, x => x % 2 + pcn k (x / 2)
theorem toNat_le (b : Bool) : b.toNat ≤ 1 := by cases b <;> decide
theorem V_lt : ∀ t : List Bool, V t < 2 ^ t.length
  | [] => by decide
  | b :: t => by
    have := V_lt t; have := toNat_le b
    rw [List.length_cons, Nat.pow_succ, V]; omega
theorem V_drop : ∀ (n : Nat) (t : List Bool), V t / 2 ^ n = V (t.drop n)
  | 0, t => by simp
  | n + 1, [] => by simp [V]
  | n + 1, b :: t => by
    have := toNat_le b
    rw [List.drop_succ_cons, ← V_drop n t, Nat.pow_succ, Nat.mul_comm, ← Nat.div_div_eq_div_mul, V]
    congr 1; omega
theorem V_take : ∀ (n : Nat) (t : List Bool), V t % 2 ^ n = V (t.take n)
  | 0, t => by simp [V, Nat.mod_one]
  | n + 1, [] => by simp [V]
  | n + 1, b :: t => by
    have := toNat_le b
    rw [List.take_succ_cons, V, V, ← V_take n t, Nat.pow_succ, Nat.mul_comm (2 ^ n) 2, Nat.mod_mul]
    have e1 : (b.toNat + 2 * V t) % 2 = b.toNat := by omega
    have e2 : (b.toNat + 2 * V t) / 2 = V t := by omega
    rw [e1, e2]
theorem V_inj : ∀ {s t : List Bool}, s.length = t.length → V s = V t → s = t
  | [], [], _, _ => rfl
  | a :: s, b :: t, h, k => by
    have ha := toNat_le a; have hb := toNat_le b
    rw [V, V] at k
    have e : V s = V t := by omega
    have e' : a.toNat = b.toNat := by omega
    have : a = b := by cases a <;> cases b <;> first | rfl | (simp at e')
    rw [this, V_inj (by simpa using h) e]
theorem V_of : ∀ (n x : Nat), x < 2 ^ n → ∃ t : List Bool, t.length = n ∧ V t = x
  | 0, x, h => ⟨[], rfl, by simp [V]; simp at h; omega⟩
  | n + 1, x, h => by
    rw [Nat.pow_succ] at h
    obtain ⟨t, ht, hv⟩ := V_of n (x / 2) (by omega)
    refine ⟨decide (x % 2 = 1) :: t, by simp [ht], ?_⟩
    rw [V, hv]
    by_cases c : x % 2 = 1
    · rw [decide_eq_true c]; simp; omega
    · rw [decide_eq_false c]; simp; omega
theorem V_true : ∀ n : Nat, V (List.replicate n true) = 2 ^ n - 1
  | 0 => rfl
  | n + 1 => by
    have := Nat.two_pow_pos n
    rw [List.replicate_succ, V, V_true n, Nat.pow_succ]; simp; omega
theorem V_append : ∀ (s t : List Bool), V (s ++ t) = V s + 2 ^ s.length * V t
  | [], t => by simp [V]
  | b :: s, t => by rw [List.cons_append, V, V, V_append s t, List.length_cons, Nat.pow_succ, Nat.mul_add, ← Nat.mul_assoc, Nat.mul_comm 2 (2 ^ s.length)]; omega
theorem pcn_V : ∀ (k : Nat) (t : List Bool), t.length ≤ k → pcn k (V t) = t.count true
  | 0, [], _ => rfl
  | k + 1, [], _ => by
    have : pcn k 0 = 0 := pcn_V k [] (by simp)
    simp [pcn, V, this]
  | k + 1, b :: t, h => by
    have hb := toNat_le b
    have e1 : (b.toNat + 2 * V t) % 2 = b.toNat := by omega
    have e2 : (b.toNat + 2 * V t) / 2 = V t := by omega
    rw [pcn, V, e1, e2, pcn_V k t (by simpa using h)]
    cases b <;> simp [Nat.add_comm]
theorem pcn_cut : ∀ (n m a r : Nat), r < 2 ^ n → pcn (n + m) (2 ^ n * a + r) = pcn n r + pcn m a
  | 0, m, a, r, h => by
    have : r = 0 := by simpa using h
    subst this
    simp [pcn]
  | n + 1, m, a, r, h => by
    rw [Nat.pow_succ] at h
    rw [show n + 1 + m = (n + m) + 1 by omega, pcn, pcn, Nat.pow_succ]
    have e1 : (2 ^ n * 2 * a + r) % 2 = r % 2 := by
      rw [Nat.mul_comm (2 ^ n) 2, Nat.mul_assoc]; omega
    have e2 : (2 ^ n * 2 * a + r) / 2 = 2 ^ n * a + r / 2 := by
      rw [Nat.mul_comm (2 ^ n) 2, Nat.mul_assoc]; omega
    rw [e1, e2, pcn_cut n m a (r / 2) (by omega)]; omega
/-! The count of Go's library, eight bits at a time. -/
theorem land_byte (a r M m : Nat) (hr : r < 256) (hm : m < 256) : (256 * a + r) &&& (256 * M + m) = 256 * (a &&& M) + (r &&& m) := by
  apply Nat.eq_of_testBit_eq
  intro j
  have hrm : r &&& m < 2 ^ 8 := Nat.lt_of_le_of_lt Nat.and_le_left hr
  rw [Nat.testBit_and, show (256 : Nat) = 2 ^ 8 from rfl, Nat.testBit_two_pow_mul_add _ hr, Nat.testBit_two_pow_mul_add _ hm, Nat.testBit_two_pow_mul_add _ hrm]
  by_cases c : j < 8 <;> simp [c, Nat.testBit_and]
def nb : List Nat → Nat
  | [] => 0
  | r :: t => 256 * nb t + r
def rep (m : Nat) : Nat → Nat
  | 0 => 0
  | n + 1 => 256 * rep m n + m
def p1 (M x : Nat) : Nat := (x / 2 &&& M) + (x &&& M)
def p2 (M x : Nat) : Nat := (x / 4 &&& M) + (x &&& M)
def p3 (M x : Nat) : Nat := (x / 16 + x) &&& M
def q1 (r : Nat) : Nat := p1 85 r
def q2 (r : Nat) : Nat := p2 51 (q1 r)
theorem byte1 : ∀ j : Fin 2, ∀ r : Fin 256, (128 * j.val + r.val / 2) &&& 85 = (r.val / 2) &&& 85 := by decide +kernel
theorem byte1' : ∀ r : Fin 256, q1 r.val < 256 := by decide +kernel
theorem byte2 : ∀ j : Fin 4, ∀ r : Fin 256, (64 * j.val + r.val / 4) &&& 51 = (r.val / 4) &&& 51 := by decide +kernel
theorem byte2' : ∀ r : Fin 256, q2 r.val ≤ 68 ∧ q2 r.val % 16 ≤ 4 := by decide +kernel
theorem byte3 : ∀ j : Fin 5, ∀ r : Fin 256, (16 * j.val + q2 r.val / 16 + q2 r.val) &&& 15 = pcn 8 r.val := by decide +kernel
theorem byte4 : ∀ r : Fin 256, pcn 8 r.val ≤ 8 := by decide +kernel
theorem p1_nb : ∀ l : List Nat, (∀ r ∈ l, r < 256) → p1 (rep 85 l.length) (nb l) = nb (l.map q1)
  | [], _ => rfl
  | r :: t, h => by
    have hr : r < 256 := h r (List.mem_cons_self ..)
    have ih := p1_nb t (fun x hx => h x (List.mem_cons_of_mem _ hx))
    rw [List.length_cons, rep, List.map_cons, nb, nb, ← ih]
    generalize nb t = a
    generalize rep 85 t.length = M
    unfold p1 q1 p1
    have e : (256 * a + r) / 2 = 256 * (a / 2) + (128 * (a % 2) + r / 2) := by omega
    have b := byte1 ⟨a % 2, by omega⟩ ⟨r, hr⟩
    simp only at b
    rw [e, land_byte _ _ _ _ (by omega) (by decide), land_byte _ _ _ _ hr (by decide), b]
    omega
theorem p2_nb : ∀ l : List Nat, (∀ r ∈ l, r < 256) → p2 (rep 51 l.length) (nb (l.map q1)) = nb (l.map q2)
  | [], _ => rfl
  | r :: t, h => by
    have hr : r < 256 := h r (List.mem_cons_self ..)
    have ih := p2_nb t (fun x hx => h x (List.mem_cons_of_mem _ hx))
    have hq : q1 r < 256 := byte1' ⟨r, hr⟩
    rw [List.length_cons, rep, List.map_cons, List.map_cons, nb, nb, ← ih]
    generalize nb (t.map q1) = a
    generalize rep 51 t.length = M
    unfold q2
    generalize q1 r = r at *
    unfold p2
    have e : (256 * a + r) / 4 = 256 * (a / 4) + (64 * (a % 4) + r / 4) := by omega
    have b := byte2 ⟨a % 4, by omega⟩ ⟨r, hq⟩
    simp only at b
    rw [e, land_byte _ _ _ _ (by omega) (by decide), land_byte _ _ _ _ hq (by decide), b]
    omega
theorem p3_nb : ∀ l : List Nat, (∀ r ∈ l, r < 256) → p3 (rep 15 l.length) (nb (l.map q2)) = nb (l.map (pcn 8)) ∧ nb (l.map q2) % 16 ≤ 4
  | [], _ => ⟨rfl, by decide⟩
  | r :: t, h => by
    have hr : r < 256 := h r (List.mem_cons_self ..)
    obtain ⟨ih, ha⟩ := p3_nb t (fun x hx => h x (List.mem_cons_of_mem _ hx))
    have hq := byte2' ⟨r, hr⟩
    simp only at hq
    have b3 := byte3 ⟨nb (t.map q2) % 16, by omega⟩ ⟨r, hr⟩
    simp only at b3
    rw [List.length_cons, rep, List.map_cons, List.map_cons, nb, nb, ← ih, ← b3]
    generalize nb (t.map q2) = a at *
    generalize rep 15 t.length = M
    generalize q2 r = r at *
    refine ⟨?_, by omega⟩
    unfold p3
    have e : (256 * a + r) / 16 + (256 * a + r) = 256 * (a / 16 + a) + (16 * (a % 16) + r / 16 + r) := by omega
    rw [e, land_byte _ _ _ _ (by omega) (by decide)]
theorem nb_of : ∀ (n x : Nat), x < 256 ^ n → ∃ l : List Nat, l.length = n ∧ (∀ r ∈ l, r < 256) ∧ nb l = x ∧ ((l.map (pcn 8)).sum = pcn (8 * n) x)
  | 0, x, h => ⟨[], rfl, by simp, by simp [nb]; simp at h; omega, by simp [pcn]⟩
  | n + 1, x, h => by
    rw [Nat.pow_succ] at h
    obtain ⟨l, hl, hb, hn, hs⟩ := nb_of n (x / 256) (by omega)
    refine ⟨x % 256 :: l, by simp [hl], ?_, by rw [nb, hn]; omega, ?_⟩
    · intro r hr
      rcases List.mem_cons.1 hr with rfl | hr
      · omega
      · exact hb r hr
    · have := pcn_cut 8 (8 * n) (x / 256) (x % 256) (by omega)
      rw [List.map_cons, List.sum_cons, hs, show 8 * (n + 1) = 8 + 8 * n by omega, ← this]
      congr 1; omega
def fold8 (Y : Nat) : Nat := ((Y + Y / 256) + (Y + Y / 256) / 65536) + ((Y + Y / 256) + (Y + Y / 256) / 65536) / 4294967296
theorem dv (c Y1 : Nat) (h : c < 256) : (256 * Y1 + c) / 256 = Y1 := by omega
theorem fold_le (Y : Nat) (h : Y < 1152921504606846976) : Y + Y / 256 < 2305843009213693952 ∧ (Y + Y / 256) + (Y + Y / 256) / 65536 < 4611686018427387904 ∧ fold8 Y < 9223372036854775808 := by
  unfold fold8
  have h1 : Y + Y / 256 < 2305843009213693952 := by omega
  generalize Y + Y / 256 = Z at *
  have h2 : Z + Z / 65536 < 4611686018427387904 := by omega
  generalize Z + Z / 65536 = U at *
  exact ⟨h1, h2, by omega⟩
theorem fold_low (c0 c1 c2 c3 c4 c5 c6 c7 Y0 Y1 Y2 Y3 Y4 Y5 Y6 Y7 : Nat) (k0 : c0 ≤ 8) (k1 : c1 ≤ 8) (k2 : c2 ≤ 8) (k3 : c3 ≤ 8) (k4 : c4 ≤ 8) (k5 : c5 ≤ 8) (k6 : c6 ≤ 8) (k7 : c7 ≤ 8)
    (h7 : Y7 = c7) (h6 : Y6 = 256 * Y7 + c6) (h5 : Y5 = 256 * Y6 + c5) (h4 : Y4 = 256 * Y5 + c4) (h3 : Y3 = 256 * Y4 + c3) (h2 : Y2 = 256 * Y3 + c2) (h1 : Y1 = 256 * Y2 + c1) (h0 : Y0 = 256 * Y1 + c0) :
    fold8 Y0 % 128 = c0 + (c1 + (c2 + (c3 + (c4 + (c5 + (c6 + c7)))))) := by
  have e1 : Y0 / 256 = Y1 := by rw [h0]; exact dv _ _ (by omega)
  have z0 : Y0 + Y1 = 256 * (Y1 + Y2) + (c0 + c1) := by omega
  have z1 : Y1 + Y2 = 256 * (Y2 + Y3) + (c1 + c2) := by omega
  have z2 : Y2 + Y3 = 256 * (Y3 + Y4) + (c2 + c3) := by omega
  have z3 : Y3 + Y4 = 256 * (Y4 + Y5) + (c3 + c4) := by omega
  have z4 : Y4 + Y5 = 256 * (Y5 + Y6) + (c4 + c5) := by omega
  have z5 : Y5 + Y6 = 256 * (Y6 + Y7) + (c5 + c6) := by omega
  have z6 : Y6 + Y7 = 256 * Y7 + (c6 + c7) := by omega
  unfold fold8
  rw [e1]
  clear h0 h1 h2 h3 h4 h5 h6 e1
  generalize Y0 + Y1 = Z0 at *
  generalize Y1 + Y2 = Z1 at *
  generalize Y2 + Y3 = Z2 at *
  generalize Y3 + Y4 = Z3 at *
  generalize Y4 + Y5 = Z4 at *
  generalize Y5 + Y6 = Z5 at *
  generalize Y6 + Y7 = Z6 at *
  subst h7
  have e2 : Z0 / 65536 = Z2 := by
    rw [show 65536 = 256 * 256 from rfl, ← Nat.div_div_eq_div_mul, z0, dv _ _ (by omega), z1, dv _ _ (by omega)]
  rw [e2]
  have u0 : Z0 + Z2 = 256 * (Z1 + Z3) + (c0 + c1 + c2 + c3) := by omega
  have u1 : Z1 + Z3 = 256 * (Z2 + Z4) + (c1 + c2 + c3 + c4) := by omega
  have u2 : Z2 + Z4 = 256 * (Z3 + Z5) + (c2 + c3 + c4 + c5) := by omega
  have u3 : Z3 + Z5 = 256 * (Z4 + Z6) + (c3 + c4 + c5 + c6) := by omega
  have u4 : Z4 + Z6 = 256 * (Z5 + Y7) + (c4 + c5 + c6 + Y7) := by omega
  clear z0 z1 z2 z3 z4 z5 z6 e2
  generalize Z0 + Z2 = U0 at *
  generalize Z1 + Z3 = U1 at *
  generalize Z2 + Z4 = U2 at *
  generalize Z3 + Z5 = U3 at *
  generalize Z4 + Z6 = U4 at *
  generalize Z5 + Y7 = U5 at *
  have e3 : U0 / 4294967296 = U4 := by
    rw [show 4294967296 = 256 * 256 * 256 * 256 from rfl, ← Nat.div_div_eq_div_mul, ← Nat.div_div_eq_div_mul, ← Nat.div_div_eq_div_mul, u0, dv _ _ (by omega), u1, dv _ _ (by omega), u2, dv _ _ (by omega), u3, dv _ _ (by omega)]
  rw [e3, u0, u4]
  clear u0 u1 u2 u3 u4 e3
  omega
theorem nb8 (c0 c1 c2 c3 c4 c5 c6 c7 : Nat) (k0 : c0 ≤ 8) (k1 : c1 ≤ 8) (k2 : c2 ≤ 8) (k3 : c3 ≤ 8) (k4 : c4 ≤ 8) (k5 : c5 ≤ 8) (k6 : c6 ≤ 8) (k7 : c7 ≤ 8) :
    nb [c0, c1, c2, c3, c4, c5, c6, c7] < 1152921504606846976 ∧ fold8 (nb [c0, c1, c2, c3, c4, c5, c6, c7]) % 128 = [c0, c1, c2, c3, c4, c5, c6, c7].sum := by
  constructor
  · simp only [nb]; omega
  · have := fold_low c0 c1 c2 c3 c4 c5 c6 c7 _ _ _ _ _ _ _ _ k0 k1 k2 k3 k4 k5 k6 k7 rfl rfl rfl rfl rfl rfl rfl rfl
    simp only [List.sum_cons, List.sum_nil, Nat.add_zero]
    rw [← this]
    congr 2
    simp only [nb, Nat.mul_zero, Nat.zero_add]
theorem rep85 : rep 85 8 = 6148914691236517205 := by decide
theorem rep51 : rep 51 8 = 3689348814741910323 := by decide
theorem rep15 : rep 15 8 = 1085102592571150095 := by decide
/-- What is behind the first three steps, folded together, is how many bits are set. -/
theorem swar (x : Nat) (h : x < 18446744073709551616) : ∃ y : Nat, p3 1085102592571150095 (p2 3689348814741910323 (p1 6148914691236517205 x)) = y ∧ p2 3689348814741910323 (p1 6148914691236517205 x) ≤ 4919131752989213764 ∧ p1 6148914691236517205 x ≤ 12297829382473034410 ∧
    y < 1152921504606846976 ∧ y + y / 256 < 2305843009213693952 ∧ (y + y / 256) + (y + y / 256) / 65536 < 4611686018427387904 ∧ fold8 y < 9223372036854775808 ∧ fold8 y % 128 = pcn 64 x := by
  obtain ⟨l, hl, hb, hn, hs⟩ := nb_of 8 x h
  have h1 := p1_nb l hb
  have h2 := p2_nb l hb
  have h3 := (p3_nb l hb).1
  rw [hl, rep85, hn] at h1
  rw [hl, rep51] at h2
  rw [hl, rep15] at h3
  have hs' : (l.map (pcn 8)).sum = pcn 64 x := hs
  have hp1 : p1 6148914691236517205 x ≤ 12297829382473034410 := by
    unfold p1
    have a1 : x / 2 &&& 6148914691236517205 ≤ 6148914691236517205 := Nat.and_le_right
    have a2 : x &&& 6148914691236517205 ≤ 6148914691236517205 := Nat.and_le_right
    omega
  rw [← hs']
  refine ⟨nb (l.map (pcn 8)), by rw [h1, h2, h3], ?_, hp1, ?_⟩
  · rw [h1, h2]
    clear h1 h2 h3 hs hs' hp1 hn
    match l, hl, hb with
    | [a, b, c, d, e, f, g, i], _, hb =>
      have q : ∀ r < 256, q2 r ≤ 68 := fun r hr => (byte2' ⟨r, hr⟩).1
      have := q a (hb a (by simp)); have := q b (hb b (by simp)); have := q c (hb c (by simp)); have := q d (hb d (by simp))
      have := q e (hb e (by simp)); have := q f (hb f (by simp)); have := q g (hb g (by simp)); have := q i (hb i (by simp))
      simp only [List.map_cons, List.map_nil, nb]
      omega
  · clear h1 h2 h3 hs hs' hp1 hn
    match l, hl, hb with
    | [a, b, c, d, e, f, g, i], _, hb =>
      have q : ∀ r < 256, pcn 8 r ≤ 8 := fun r hr => byte4 ⟨r, hr⟩
      have := nb8 (pcn 8 a) (pcn 8 b) (pcn 8 c) (pcn 8 d) (pcn 8 e) (pcn 8 f) (pcn 8 g) (pcn 8 i) (q a (hb a (by simp))) (q b (hb b (by simp))) (q c (hb c (by simp))) (q d (hb d (by simp))) (q e (hb e (by simp))) (q f (hb f (by simp))) (q g (hb g (by simp))) (q i (hb i (by simp)))
      have l := fold_le _ this.1
      exact ⟨this.1, l.1, l.2.1, l.2.2, this.2⟩
end Go.Proofs.Ytphonmldcbgklaa.Pure
