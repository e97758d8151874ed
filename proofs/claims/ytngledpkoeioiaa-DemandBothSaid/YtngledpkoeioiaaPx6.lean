-- Written by a program of this session (hprint.py), out of the translation; functions that the print does not take are given by hand.
import Derived.Test.YtngledpkoeioiaaPx0
import Derived.Test.YtngledpkoeioiaaPx3
import Derived.Test.YtngledpkoeioiaaPx4
import Derived.Test.YtngledpkoeioiaaPx5
namespace Go.Proofs.Ytngledpkoeioiaa.P
open Go.RowKit Go.Proofs.YtngledpkoeioiaaM Go.Proofs.YtngledpkoeioiaaW.PrintWords Go.Proofs.YtngledpkoeioiaaW.PrintLast Go.Proofs.YtngledpkoeioiaaW.PrintMore
attribute [local go_sem] max2_int min2_int max_two min_two max_three min_three max_four min_four   -- for this text's walks alone
set_option linter.unusedVariables false
set_option linter.unusedSimpArgs false

/-! ### demand_Test: function 15 -/
def demand_Test.l0 : Nat → List (S26) → Int → Option Bool
  | 0, _, _ => none
  | k + 1, l, n => if n = 0 then some true else (demand_All.f k l n).bind fun m => if m > n then some false else if m < n ∧ m > 0 then ((demand_last.f k l (wrap64 (m + 1))).bind fun t => demand_Test.l0 k l t) else if m = n then ((demand_last.f k l n).bind fun t => demand_Test.l0 k l t) else some true
def demand_Test.f (k : Nat) (l0 : List (S26)) : Option Bool := (demand_May.f k l0).bind fun t => if t = true then ((demand_Horizon.f k l0).bind fun h => (demand_last.f k l0 h).bind fun n => demand_Test.l0 k l0 n) else some false
theorem demand_Test.mono_l : ∀ k, (∀ y0 y1, LeO (demand_Test.l0 k y0 y1) (demand_Test.l0 (k + 1) y0 y1))
  | 0 => fun _ _ r h => by simp [demand_Test.l0] at h
  | k + 1 => by
    have ih0 := demand_Test.mono_l k
    intro l n r h
    rw [demand_Test.l0] at h ⊢
    by_cases c : n = 0
    · rw [if_pos c] at h ⊢; exact h
    · rw [if_neg c] at h ⊢
      obtain ⟨m, hm, h⟩ := Option.bind_eq_some_iff.mp h
      rw [demand_All.mono _ _ _ _ hm, Option.bind_some]
      by_cases c1 : m > n
      · rw [if_pos c1] at h ⊢; exact h
      · rw [if_neg c1] at h ⊢
        by_cases c2 : m < n ∧ m > 0
        · rw [if_pos c2] at h ⊢
          obtain ⟨t, ht, h⟩ := Option.bind_eq_some_iff.mp h
          rw [demand_last.mono _ _ _ _ ht, Option.bind_some]
          exact ih0 _ _ _ h
        · rw [if_neg c2] at h ⊢
          by_cases c3 : m = n
          · rw [if_pos c3] at h ⊢
            obtain ⟨t, ht, h⟩ := Option.bind_eq_some_iff.mp h
            rw [demand_last.mono _ _ _ _ ht, Option.bind_some]
            exact ih0 _ _ _ h
          · rw [if_neg c3] at h ⊢; exact h
theorem demand_Test.mono : ∀ a0 k, LeO (demand_Test.f k a0) (demand_Test.f (k + 1) a0) := by
  intro l k r h
  unfold demand_Test.f at h ⊢
  obtain ⟨t, ht, h⟩ := Option.bind_eq_some_iff.mp h
  rw [demand_May.mono _ _ _ ht, Option.bind_some]
  by_cases c : t = true
  · rw [if_pos c] at h ⊢
    obtain ⟨x, hx, h⟩ := Option.bind_eq_some_iff.mp h
    obtain ⟨n, hn, h⟩ := Option.bind_eq_some_iff.mp h
    rw [demand_Horizon.mono _ _ _ hx, Option.bind_some, demand_last.mono _ _ _ _ hn, Option.bind_some]
    exact demand_Test.mono_l _ _ _ _ h
  · rw [if_neg c] at h ⊢; exact h
/-- What stands at the label: so much fuel is left. -/
def demand_Test.R (w : World) (A0 : Option Addr) (c0 : Nat) (l0 : List (S26)) (r : Bool) (k : Nat) (a : Act) (W : World) : Prop :=
  ∃ (n : Int) (u1 u2 u4 u5 u6 u7 u8 u9 u10 u11 u12 u13 u14 u15 u16 u17 u18 u19 u20 u21 u22 u23 u24 u25 u26 u27 u28 u29 u30 u31 u32 u33 u34 u35 u36 u37 u38 u39 : Value), a = { tmps := #[.slice A0 l0.length c0, u1, u2, .int .i64 n, u4, u5, u6, u7, u8, u9, u10, u11, u12, u13, u14, u15, u16, u17, u18, u19, u20, u21, u22, u23, u24, u25, u26, u27, u28, u29, u30, u31, u32, u33, u34, u35, u36, u37, u38, u39], defers := [] } ∧ demand_Test.l0 k l0 n = some r ∧ Below w.heap.size w W
open Classical in
noncomputable def demand_Test.mu (R : Nat → Prop) : Nat := if h : ∃ k, R k ∧ ∀ j, j < k → ¬ R j then Classical.choose h else 0
theorem demand_Test.mu_least {R : Nat → Prop} (h : ∃ k, R k) : R (demand_Test.mu R) ∧ ∀ k, R k → demand_Test.mu R ≤ k := by
  have h2 : ∃ k, R k ∧ ∀ j, j < k → ¬ R j := by
    obtain ⟨k, hk⟩ := h
    induction k using Nat.strongRecOn with
    | ind k ih =>
      by_cases c : ∃ j, j < k ∧ R j
      · obtain ⟨j, hj, hr⟩ := c; exact ih j hj hr
      · exact ⟨k, hk, fun j hj hr => c ⟨j, hj, hr⟩⟩
  unfold demand_Test.mu
  rw [dif_pos h2]
  have hs := Classical.choose_spec h2
  exact ⟨hs.1, fun k hk => Nat.le_of_not_lt fun hlt => hs.2 k hlt hk⟩
theorem demand_Test.mu_lt {R S : Nat → Prop} {k : Nat} (hk : S k) (hlt : k < demand_Test.mu R) : (∃ k, S k) ∧ demand_Test.mu S < demand_Test.mu R :=
  ⟨⟨k, hk⟩, Nat.lt_of_le_of_lt ((demand_Test.mu_least ⟨k, hk⟩).2 k hk) hlt⟩
set_option maxHeartbeats 8000000 in
set_option maxRecDepth 100000 in
theorem demand_Test.calls (k : Nat) (A0 : Option Addr) (c0 : Nat) (l0 : List (S26)) (r : Bool) (w : World) (hr0 : Kd.C k26 w A0 l0.length l0) (hc0 : l0.length ≤ c0) (h : demand_Test.f k l0 = some r) :
    Calls Try.prog 15 #[.slice A0 l0.length c0] w fun e w' => e = .returned (.bool r) ∧ Below w.heap.size w w' := by
  have HR0 := Aside0.mk hr0
  have HC0 := Aside0.mk hc0
  clear hr0 hc0
  have HB := Aside0.mk (Below.refl w.heap.size w)
  unfold demand_Test.f at h
  obtain ⟨t, ht, h⟩ := Option.bind_eq_some_iff.mp h
  have HT := Aside0.mk ht
  clear ht
  cases t with
  | false =>
    rw [if_neg (by decide)] at h
    obtain rfl := Option.some.inj h
    clear h
    go_enter Try.func15, Try.ntmps15
    go_wp2
    refine wp_scope_straight ?_
    go_wp2_with (go_at_call 13; (with_reducible refine (demand_May.calls k _ _ l0 false _ (by repeat (first | exact HR0.out | (with_reducible refine Kd.C_alloc ?_ _))) HC0.out HT.out).mono ?_); rintro e w1 ⟨rfl, hb⟩; have HB1 := bs HB hb; clear hb)
    rw [Exit.noGoto_ret]
    go_ret
    exact ⟨rfl, HB1.out⟩
  | true =>
    rw [if_pos rfl] at h
    obtain ⟨x, hx, h⟩ := Option.bind_eq_some_iff.mp h
    obtain ⟨n0, hn, h⟩ := Option.bind_eq_some_iff.mp h
    have HX := Aside0.mk hx
    have HN := Aside0.mk hn
    have HH := Aside0.mk h
    clear hx hn h
    go_enter Try.func15, Try.ntmps15
    go_wp2
    refine wp_scope_jumps 0 (fun a W => ∃ k, demand_Test.R w A0 c0 l0 r k a W) (fun a W => demand_Test.mu (fun k => demand_Test.R w A0 c0 l0 r k a W)) rfl ?_ ?_
    · go_wp2_with (first | (go_at_call 13; (with_reducible refine (demand_May.calls k _ _ l0 true _ (by repeat (first | exact HR0.out | (with_reducible refine Kd.C_alloc ?_ _))) HC0.out HT.out).mono ?_); rintro e w1 ⟨rfl, hb⟩; have HB1 := bs HB hb; clear hb) | (go_at_call 14; (with_reducible refine (demand_Horizon.calls k _ _ l0 x _ (Kd.C_below HR0.out HB1.out) HC0.out HX.out).mono ?_); rintro e w2 ⟨rfl, hb⟩; have HB2 := bs HB1 hb; clear hb) | (go_at_call 30; (with_reducible refine (demand_last.calls k _ _ l0 x n0 _ (Kd.C_below HR0.out HB2.out) HC0.out HN.out).mono ?_); rintro e w3 ⟨rfl, hb⟩; have HB3 := bs HB2 hb; clear hb))
      go_step3
      obtain ⟨n, rfl⟩ : ∃ n : Int, n = n0 := ⟨n0, rfl⟩
      obtain ⟨kk, rfl⟩ : ∃ kk : Nat, kk = k := ⟨k, rfl⟩
      have HL := Aside0.mk HH.out
      clear HH HN HX HT
      cases kk with
      | zero => exact absurd HL.out (by simp [demand_Test.l0])
      | succ k1 =>
        have H := HL.out
        clear HL
        rw [demand_Test.l0] at H
        by_cases c1 : n = 0
        · subst c1
          rw [if_pos rfl] at H
          obtain rfl := Option.some.inj H
          clear H
          go_wp2
          simp only [Exit.jump]
          go_ret
          exact ⟨rfl, HB3.out⟩
        · rw [if_neg c1] at H
          have e1 : (n == 0) = false := beq_eq_false_iff_ne.mpr c1
          clear c1
          obtain ⟨m, hm, H⟩ := Option.bind_eq_some_iff.mp H
          have HM := Aside0.mk hm
          clear hm
          by_cases c2 : m > n
          · rw [if_pos c2] at H
            obtain rfl := Option.some.inj H
            have e2 : decide (n < m) = true := decide_eq_true c2
            clear H c2
            go_wp2_with (first | (go_at_call 12; (with_reducible refine (demand_All.calls k1 _ _ l0 n m _ (Kd.C_below HR0.out HB3.out) HC0.out HM.out).mono ?_); rintro e w4 ⟨rfl, hb⟩; have HB4 := bs HB3 hb; clear hb))
            simp only [Exit.jump]
            go_ret
            exact ⟨rfl, HB4.out⟩
          · rw [if_neg c2] at H
            have e2 : decide (n < m) = false := decide_eq_false c2
            by_cases c3 : m < n ∧ m > 0
            · rw [if_pos c3] at H
              obtain ⟨t, ht, H⟩ := Option.bind_eq_some_iff.mp H
              have HT2 := Aside0.mk ht
              have HH2 := Aside0.mk H
              have e3 : decide (m < n) = true := decide_eq_true c3.1
              have e4 : decide (0 < m) = true := decide_eq_true c3.2
              clear H ht c2 c3
              go_wp2_with (first | (go_at_call 12; (with_reducible refine (demand_All.calls k1 _ _ l0 n m _ (Kd.C_below HR0.out HB3.out) HC0.out HM.out).mono ?_); rintro e w4 ⟨rfl, hb⟩; have HB4 := bs HB3 hb; clear hb) | (go_at_call 30; (with_reducible refine (demand_last.calls k1 _ _ l0 (wrap64 (m + 1)) t _ (Kd.C_below HR0.out HB4.out) HC0.out HT2.out).mono ?_); rintro e w5 ⟨rfl, hb⟩; have HB5 := bs HB4 hb; clear hb))
              go_step3
              exact ⟨rfl, k1, ⟨t, _, _, _, _, _, _, _, _, _, _, _, _, _, _, _, _, _, _, _, _, _, _, _, _, _, _, _, _, _, _, _, _, _, _, _, _, _, _, rfl, HH2.out, HB5.out⟩⟩
            · rw [if_neg c3] at H
              by_cases c4 : m = n
              · rw [if_pos c4] at H
                subst c4
                obtain ⟨t, ht, H⟩ := Option.bind_eq_some_iff.mp H
                have HT2 := Aside0.mk ht
                have HH2 := Aside0.mk H
                clear H ht c2 c3
                go_wp2_with (first | (go_at_call 12; (with_reducible refine (demand_All.calls k1 _ _ l0 m m _ (Kd.C_below HR0.out HB3.out) HC0.out HM.out).mono ?_); rintro e w4 ⟨rfl, hb⟩; have HB4 := bs HB3 hb; clear hb) | (go_at_call 30; (with_reducible refine (demand_last.calls k1 _ _ l0 (m) t _ (Kd.C_below HR0.out HB4.out) HC0.out HT2.out).mono ?_); rintro e w5 ⟨rfl, hb⟩; have HB5 := bs HB4 hb; clear hb))
                go_step3
                exact ⟨rfl, k1, ⟨t, _, _, _, _, _, _, _, _, _, _, _, _, _, _, _, _, _, _, _, _, _, _, _, _, _, _, _, _, _, _, _, _, _, _, _, _, _, _, rfl, HH2.out, HB5.out⟩⟩
              · rw [if_neg c4] at H
                obtain rfl := Option.some.inj H
                have e3 : decide (m < n) = true := decide_eq_true (by omega)
                have e4 : decide (0 < m) = false := decide_eq_false (by omega)
                have e5 : (m == n) = false := beq_eq_false_iff_ne.mpr c4
                clear H c2 c3 c4
                go_wp2_with (first | (go_at_call 12; (with_reducible refine (demand_All.calls k1 _ _ l0 n m _ (Kd.C_below HR0.out HB3.out) HC0.out HM.out).mono ?_); rintro e w4 ⟨rfl, hb⟩; have HB4 := bs HB3 hb; clear hb))
                simp only [Exit.jump]
                go_ret
                exact ⟨rfl, HB4.out⟩
    · rintro a' w' ⟨k0, hk0⟩
      obtain ⟨hR, hL⟩ := demand_Test.mu_least (R := fun k => demand_Test.R w A0 c0 l0 r k a' w') ⟨k0, hk0⟩
      clear hL hk0
      obtain ⟨kk, hkk⟩ : ∃ kk, kk = demand_Test.mu (fun k => demand_Test.R w A0 c0 l0 r k a' w') := ⟨_, rfl⟩
      rw [← hkk] at hR
      have HK := Aside0.mk hkk
      obtain ⟨n, u1, u2, u4, u5, u6, u7, u8, u9, u10, u11, u12, u13, u14, u15, u16, u17, u18, u19, u20, u21, u22, u23, u24, u25, u26, u27, u28, u29, u30, u31, u32, u33, u34, u35, u36, u37, u38, u39, rfl, hl, hb⟩ := hR
      have HB := Aside0.mk hb
      have HL := Aside0.mk hl
      clear hb hl hkk HH HN HX HT
      cases kk with
      | zero => exact absurd HL.out (by simp [demand_Test.l0])
      | succ k1 =>
        have H := HL.out
        clear HL
        rw [demand_Test.l0] at H
        by_cases c1 : n = 0
        · subst c1
          rw [if_pos rfl] at H
          obtain rfl := Option.some.inj H
          clear H
          go_wp2
          simp only [Exit.jump]
          go_ret
          exact ⟨rfl, HB.out⟩
        · rw [if_neg c1] at H
          have e1 : (n == 0) = false := beq_eq_false_iff_ne.mpr c1
          clear c1
          obtain ⟨m, hm, H⟩ := Option.bind_eq_some_iff.mp H
          have HM := Aside0.mk hm
          clear hm
          by_cases c2 : m > n
          · rw [if_pos c2] at H
            obtain rfl := Option.some.inj H
            have e2 : decide (n < m) = true := decide_eq_true c2
            clear H c2
            go_wp2_with (first | (go_at_call 12; (with_reducible refine (demand_All.calls k1 _ _ l0 n m _ (Kd.C_below HR0.out HB.out) HC0.out HM.out).mono ?_); rintro e w4 ⟨rfl, hb⟩; have HB4 := bs HB hb; clear hb))
            simp only [Exit.jump]
            go_ret
            exact ⟨rfl, HB4.out⟩
          · rw [if_neg c2] at H
            have e2 : decide (n < m) = false := decide_eq_false c2
            by_cases c3 : m < n ∧ m > 0
            · rw [if_pos c3] at H
              obtain ⟨t, ht, H⟩ := Option.bind_eq_some_iff.mp H
              have HT2 := Aside0.mk ht
              have HH2 := Aside0.mk H
              have e3 : decide (m < n) = true := decide_eq_true c3.1
              have e4 : decide (0 < m) = true := decide_eq_true c3.2
              clear H ht c2 c3
              go_wp2_with (first | (go_at_call 12; (with_reducible refine (demand_All.calls k1 _ _ l0 n m _ (Kd.C_below HR0.out HB.out) HC0.out HM.out).mono ?_); rintro e w4 ⟨rfl, hb⟩; have HB4 := bs HB hb; clear hb) | (go_at_call 30; (with_reducible refine (demand_last.calls k1 _ _ l0 (wrap64 (m + 1)) t _ (Kd.C_below HR0.out HB4.out) HC0.out HT2.out).mono ?_); rintro e w5 ⟨rfl, hb⟩; have HB5 := bs HB4 hb; clear hb))
              go_step3
              exact ⟨rfl, demand_Test.mu_lt (k := k1) ⟨t, _, _, _, _, _, _, _, _, _, _, _, _, _, _, _, _, _, _, _, _, _, _, _, _, _, _, _, _, _, _, _, _, _, _, _, _, _, _, rfl, HH2.out, HB5.out⟩ (by rw [← HK.out]; omega)⟩
            · rw [if_neg c3] at H
              by_cases c4 : m = n
              · rw [if_pos c4] at H
                subst c4
                obtain ⟨t, ht, H⟩ := Option.bind_eq_some_iff.mp H
                have HT2 := Aside0.mk ht
                have HH2 := Aside0.mk H
                clear H ht c2 c3
                go_wp2_with (first | (go_at_call 12; (with_reducible refine (demand_All.calls k1 _ _ l0 m m _ (Kd.C_below HR0.out HB.out) HC0.out HM.out).mono ?_); rintro e w4 ⟨rfl, hb⟩; have HB4 := bs HB hb; clear hb) | (go_at_call 30; (with_reducible refine (demand_last.calls k1 _ _ l0 (m) t _ (Kd.C_below HR0.out HB4.out) HC0.out HT2.out).mono ?_); rintro e w5 ⟨rfl, hb⟩; have HB5 := bs HB4 hb; clear hb))
                go_step3
                exact ⟨rfl, demand_Test.mu_lt (k := k1) ⟨t, _, _, _, _, _, _, _, _, _, _, _, _, _, _, _, _, _, _, _, _, _, _, _, _, _, _, _, _, _, _, _, _, _, _, _, _, _, _, rfl, HH2.out, HB5.out⟩ (by rw [← HK.out]; omega)⟩
              · rw [if_neg c4] at H
                obtain rfl := Option.some.inj H
                have e3 : decide (m < n) = true := decide_eq_true (by omega)
                have e4 : decide (0 < m) = false := decide_eq_false (by omega)
                have e5 : (m == n) = false := beq_eq_false_iff_ne.mpr c4
                clear H c2 c3 c4
                go_wp2_with (first | (go_at_call 12; (with_reducible refine (demand_All.calls k1 _ _ l0 n m _ (Kd.C_below HR0.out HB.out) HC0.out HM.out).mono ?_); rintro e w4 ⟨rfl, hb⟩; have HB4 := bs HB hb; clear hb))
                simp only [Exit.jump]
                go_ret
                exact ⟨rfl, HB4.out⟩

/-! ### fuseelaw05_One: function 24 -/
def fuseelaw05_One.f  : Option (Int × Int × Int × Int × Int × Int) := some (2, 10, 20, 1, 2, 3)
set_option maxHeartbeats 8000000 in
set_option maxRecDepth 100000 in
theorem fuseelaw05_One.calls  (r1 : Int) (r2 : Int) (r3 : Int) (r4 : Int) (r5 : Int) (r6 : Int) (w : World) (h : fuseelaw05_One.f  = some (r1, r2, r3, r4, r5, r6)) :
    Calls Try.prog 24 #[] w fun e w' => e = .returned (.agg #[.int .i64 r1, .int .i64 r2, .int .i64 r3, .int .i64 r4, .int .i64 r5, .int .i64 r6]) ∧ Below w.heap.size w w' := by
  have hu24 := Try.underlying24
  have HB := Aside0.mk (Below.refl w.heap.size w)
  have H : (some (2, 10, 20, 1, 2, 3)) = some (r1, r2, r3, r4, r5, r6) := h
  clear h
  simp only [Option.some.injEq, Prod.mk.injEq] at H
  obtain ⟨rfl, rfl, rfl, rfl, rfl, rfl⟩ := H
  go_enter Try.func24, Try.ntmps24
  go_wp2_with (first | ((with_reducible refine gate_dst (N := 0) rfl ?_); refine box_event ?hg (N := 0) ?hd (cs := #[.int .i64 0, .int .i64 0, .int .i64 0, .int .i64 0, .int .i64 0, .int .i64 0]) (t := 24) ?hr ?_; (case hd => rfl); (case hg => rfl); (case hr => first | (go_simp; done) | (go_simp; rfl)); intro gb146 hg w1 hbox hb; have n0_ := bs HB hb; have n1_ := Aside0.mk (hbox); have n2_ := bz HB hg; have n3_ := bz HB hg; clear HB; have HB := n0_; have BK146 := n1_; have GW146 := n2_; have GE146 := n3_; clear n0_ n1_ n2_ n3_; clear hb hbox hg; obtain ⟨hcz2_0, hcz2_1, hcz2_2, hcz2_3, hcz2_4, hcz2_5⟩ := cc6 BK146; obtain ⟨hfz2_0, hfz2_1, hfz2_2, hfz2_3, hfz2_4, hfz2_5⟩ := cf6 BK146))
  refine bodyPost_ret (results_cell_row rfl _ _ gb146 24 #[.int .i64 2, .int .i64 10, .int .i64 20, .int .i64 1, .int .i64 2, .int .i64 3] (0, 0) _ rfl (by (with_reducible repeat (first | refine bN ?_ _ | refine bD ?_ | refine bA ?_ _)); refine blk_put (cs := #[.int .i64 2, .int .i64 10, .int .i64 20, .int .i64 1, .int .i64 2, .int .i64 0]) ?_ 5 _ rfl; (with_reducible repeat (first | refine bN ?_ _ | refine bD ?_ | refine bA ?_ _)); refine blk_put (cs := #[.int .i64 2, .int .i64 10, .int .i64 20, .int .i64 1, .int .i64 0, .int .i64 0]) ?_ 4 _ rfl; (with_reducible repeat (first | refine bN ?_ _ | refine bD ?_ | refine bA ?_ _)); refine blk_put (cs := #[.int .i64 2, .int .i64 10, .int .i64 20, .int .i64 0, .int .i64 0, .int .i64 0]) ?_ 3 _ rfl; (with_reducible repeat (first | refine bN ?_ _ | refine bD ?_ | refine bA ?_ _)); refine blk_put (cs := #[.int .i64 2, .int .i64 10, .int .i64 0, .int .i64 0, .int .i64 0, .int .i64 0]) ?_ 2 _ rfl; (with_reducible repeat (first | refine bN ?_ _ | refine bD ?_ | refine bA ?_ _)); refine blk_put (cs := #[.int .i64 2, .int .i64 0, .int .i64 0, .int .i64 0, .int .i64 0, .int .i64 0]) ?_ 1 _ rfl; (with_reducible repeat (first | refine bN ?_ _ | refine bD ?_ | refine bA ?_ _)); refine blk_put (cs := #[.int .i64 0, .int .i64 0, .int .i64 0, .int .i64 0, .int .i64 0, .int .i64 0]) ?_ 0 _ rfl; (with_reducible repeat (first | refine bN ?_ _ | refine bD ?_ | refine bA ?_ _)); exact BK146.out) Try.underlying24 rfl (by kernel_rfl)) rfl ?_
  exact ⟨by first | rfl | (simp [errW_none, errW_some] <;> rfl) | (simp [*, errW_none, errW_some] <;> rfl) | (exfalso; contradiction), by repeat (first | (with_reducible first | exact HB.out | apply below_alloc | apply pw_below_drewN | apply below_drew1 | refine below_set ?_ GE146.out) | exact HB.out)⟩

/-! ### fuseelaw09_awake: function 10 -/
def fuseelaw09_awake.f (k : Nat)  : Option (Bool) := (fuseelaw05_One.f).bind fun bt147 => ((some (([(⟨(⟨bt147.1, bt147.2.1, bt147.2.2.1, bt147.2.2.2.1, bt147.2.2.2.2.1, bt147.2.2.2.2.2⟩ : S24), 10⟩ : S26)] : List (S26)) : List (S26))).bind fun y154 => ((demand_Of.f bt147.1 bt147.2.1 bt147.2.2.1 bt147.2.2.2.1 bt147.2.2.2.2.1 bt147.2.2.2.2.2 10 9).bind fun t157 => (if t157 = 0 then ((demand_Of.f bt147.1 bt147.2.1 bt147.2.2.1 bt147.2.2.2.1 bt147.2.2.2.2.1 bt147.2.2.2.2.2 10 10).bind fun t158 => (if t158 = 2 then ((demand_Of.f bt147.1 bt147.2.1 bt147.2.2.1 bt147.2.2.2.1 bt147.2.2.2.2.1 bt147.2.2.2.2.2 10 29).bind fun t159 => (if t159 = 2 then ((demand_Of.f bt147.1 bt147.2.1 bt147.2.2.1 bt147.2.2.2.1 bt147.2.2.2.2.1 bt147.2.2.2.2.2 10 30).bind fun t160 => (if t160 = 4 then ((demand_May.f k y154).bind fun t161 => (if t161 = true then ((demand_Horizon.f k y154).bind fun t162 => (if t162 = 32 then ((demand_Test.f k y154).bind fun t163 => (some t163)) else (none))) else (none))) else (none))) else (none))) else (none))) else (none))))
theorem fuseelaw09_awake.mono : ∀ k, LeO (fuseelaw09_awake.f k ) (fuseelaw09_awake.f (k + 1) ) := by
  intro  k
  unfold fuseelaw09_awake.f
  repeat' first
      | (with_reducible exact demand_Horizon.mono _ _)
      | (with_reducible exact demand_May.mono _ _)
      | (with_reducible exact demand_Test.mono _ _)
      | (with_reducible exact LeO.refl _)
      | (with_reducible exact LeO.none _)
      | (with_reducible refine LeO.ite ?_ ?_)
      | (with_reducible refine LeO.bind ?_ (fun _ => ?_))
      | exact demand_Horizon.mono _ _
      | exact demand_May.mono _ _
      | exact demand_Test.mono _ _
      | exact LeO.none _
      | refine LeO.ite ?_ ?_
      | refine LeO.bind ?_ (fun _ => ?_)
set_option maxHeartbeats 8000000 in
set_option maxRecDepth 100000 in
theorem fuseelaw09_awake.calls (k : Nat)  (r : Bool) (w : World) (h : fuseelaw09_awake.f k  = some r) :
    Calls Try.prog 10 #[] w fun e w' => e = .returned (.bool r) ∧ Below w.heap.size w w' := by
  have hu26 := Try.underlying26
  have HB := Aside0.mk (Below.refl w.heap.size w)
  have H : ((fuseelaw05_One.f).bind fun bt147 => ((some (([(⟨(⟨bt147.1, bt147.2.1, bt147.2.2.1, bt147.2.2.2.1, bt147.2.2.2.2.1, bt147.2.2.2.2.2⟩ : S24), 10⟩ : S26)] : List (S26)) : List (S26))).bind fun y154 => ((demand_Of.f bt147.1 bt147.2.1 bt147.2.2.1 bt147.2.2.2.1 bt147.2.2.2.2.1 bt147.2.2.2.2.2 10 9).bind fun t157 => (if t157 = 0 then ((demand_Of.f bt147.1 bt147.2.1 bt147.2.2.1 bt147.2.2.2.1 bt147.2.2.2.2.1 bt147.2.2.2.2.2 10 10).bind fun t158 => (if t158 = 2 then ((demand_Of.f bt147.1 bt147.2.1 bt147.2.2.1 bt147.2.2.2.1 bt147.2.2.2.2.1 bt147.2.2.2.2.2 10 29).bind fun t159 => (if t159 = 2 then ((demand_Of.f bt147.1 bt147.2.1 bt147.2.2.1 bt147.2.2.2.1 bt147.2.2.2.2.1 bt147.2.2.2.2.2 10 30).bind fun t160 => (if t160 = 4 then ((demand_May.f k y154).bind fun t161 => (if t161 = true then ((demand_Horizon.f k y154).bind fun t162 => (if t162 = 32 then ((demand_Test.f k y154).bind fun t163 => (some t163)) else (none))) else (none))) else (none))) else (none))) else (none))) else (none))))) = some r := h
  clear h
  replace H := Option.bind_eq_some_iff.mp H
  obtain ⟨⟨t147, t148, t149, t150, t151, t152⟩, A10, H⟩ := H
  try dsimp only at H
  have A1 := Aside0.mk A10
  clear A10
  obtain ⟨y154, hy154⟩ : ∃ y_ : List (S26), y_ = (([(⟨(⟨t147, t148, t149, t150, t151, t152⟩ : S24), 10⟩ : S26)] : List (S26))) := ⟨_, rfl⟩
  replace H : ((demand_Of.f t147 t148 t149 t150 t151 t152 10 9).bind fun t157 => (if t157 = 0 then ((demand_Of.f t147 t148 t149 t150 t151 t152 10 10).bind fun t158 => (if t158 = 2 then ((demand_Of.f t147 t148 t149 t150 t151 t152 10 29).bind fun t159 => (if t159 = 2 then ((demand_Of.f t147 t148 t149 t150 t151 t152 10 30).bind fun t160 => (if t160 = 4 then ((demand_May.f k y154).bind fun t161 => (if t161 = true then ((demand_Horizon.f k y154).bind fun t162 => (if t162 = 32 then ((demand_Test.f k y154).bind fun t163 => (some t163)) else (none))) else (none))) else (none))) else (none))) else (none))) else (none))) = some r := by first | (rw [hy154]; with_reducible exact H) | (have H2_ := (Option.bind_some _ _).symm.trans H; rw [hy154]; with_reducible exact H2_) | (have H2_ := (Option.bind_some _ _).symm.trans H; with_reducible exact H2_) | with_reducible exact H | (rw [hy154]; exact H) | exact H
  have Ny154 := Aside0.mk hy154
  clear hy154
  replace H := Option.bind_eq_some_iff.mp H
  obtain ⟨t157, A20, H⟩ := H
  try dsimp only at H
  have A2 := Aside0.mk A20
  clear A20
  by_cases c3 : t157 = 0
  · rw [if_pos c3] at H
    have c3b0 : (t157 == 0) = true := beq_iff_eq.mpr c3
    have c3b1 : (t157 != 0) = false := bne_eq_false_iff_eq.mpr c3
    clear c3
    replace H := Option.bind_eq_some_iff.mp H
    obtain ⟨t158, A40, H⟩ := H
    try dsimp only at H
    have A4 := Aside0.mk A40
    clear A40
    by_cases c5 : t158 = 2
    · rw [if_pos c5] at H
      have c5b0 : (t158 == 2) = true := beq_iff_eq.mpr c5
      have c5b1 : (t158 != 2) = false := bne_eq_false_iff_eq.mpr c5
      clear c5
      replace H := Option.bind_eq_some_iff.mp H
      obtain ⟨t159, A60, H⟩ := H
      try dsimp only at H
      have A6 := Aside0.mk A60
      clear A60
      by_cases c7 : t159 = 2
      · rw [if_pos c7] at H
        have c7b0 : (t159 == 2) = true := beq_iff_eq.mpr c7
        have c7b1 : (t159 != 2) = false := bne_eq_false_iff_eq.mpr c7
        clear c7
        replace H := Option.bind_eq_some_iff.mp H
        obtain ⟨t160, A80, H⟩ := H
        try dsimp only at H
        have A8 := Aside0.mk A80
        clear A80
        by_cases c9 : t160 = 4
        · rw [if_pos c9] at H
          have c9b0 : (t160 == 4) = true := beq_iff_eq.mpr c9
          have c9b1 : (t160 != 4) = false := bne_eq_false_iff_eq.mpr c9
          clear c9
          replace H := Option.bind_eq_some_iff.mp H
          obtain ⟨t161, A100, H⟩ := H
          try dsimp only at H
          have A10 := Aside0.mk A100
          clear A100
          by_cases c11 : t161 = true
          · subst c11
            rw [if_pos rfl] at H
            replace H := Option.bind_eq_some_iff.mp H
            obtain ⟨t162, A120, H⟩ := H
            try dsimp only at H
            have A12 := Aside0.mk A120
            clear A120
            by_cases c13 : t162 = 32
            · rw [if_pos c13] at H
              have c13b0 : (t162 == 32) = true := beq_iff_eq.mpr c13
              have c13b1 : (t162 != 32) = false := bne_eq_false_iff_eq.mpr c13
              clear c13
              replace H := Option.bind_eq_some_iff.mp H
              obtain ⟨t163, A140, H⟩ := H
              try dsimp only at H
              have A14 := Aside0.mk A140
              clear A140
              obtain rfl := Option.some.inj H
              go_enter Try.func10, Try.ntmps10
              go_wp2_with (first | ((with_reducible refine gate_callee (f := 24) rfl ?_); refine goesL_ (some 3) rfl rfl Try.func24 (by kernel_rfl) rfl #[] rfl (by (try simp only [List.map_toArray, List.map_cons, List.map_nil]); first | done | rfl | (simp only [List.length_drop, List.length_take]; rfl)) ?_; (with_reducible refine (fuseelaw05_One.calls  t147 t148 t149 t150 t151 t152 _ A1.out).mono ?_); rintro e w15 ⟨rfl, hb⟩; refine ⟨_, rfl, ?_⟩; have n0_ := bs HB hb; clear HB; have HB := n0_; clear n0_; (try clear hb); (try clear hb2); (try clear hk); (try clear hi)) | ((with_reducible refine gate_dst (N := 1) rfl ?_); refine box_event ?hg (N := 1) ?hd (cs := #[.int .i64 0, .int .i64 0, .int .i64 0, .int .i64 0, .int .i64 0, .int .i64 0, .int .i64 0]) (t := 26) ?hr ?_; (case hd => rfl); (case hg => rfl); (case hr => first | (go_simp; done) | (go_simp; rfl)); intro gb153 hg w16 hbox hb; have n0_ := bs HB hb; have n1_ := Aside0.mk (hbox); have n2_ := bz HB hg; have n3_ := bz HB hg; clear HB; have HB := n0_; have BK153 := n1_; have GW153 := n2_; have GE153 := n3_; clear n0_ n1_ n2_ n3_; clear hb hbox hg; obtain ⟨hcz17_0, hcz17_1, hcz17_2, hcz17_3, hcz17_4, hcz17_5, hcz17_6⟩ := cc7 BK153; obtain ⟨hfz17_0, hfz17_1, hfz17_2, hfz17_3, hfz17_4, hfz17_5, hfz17_6⟩ := cf7 BK153) | ((with_reducible refine gate_dst (N := 6) rfl ?_); refine Kd.R_lit k26 _ 26 ?hg (N := 6) ?hd (xs := ([(⟨(⟨t147, t148, t149, t150, t151, t152⟩ : S24), 10⟩ : S26)] : List (S26))) (inner := [.int .i64 t147, .int .i64 t148, .int .i64 t149, .int .i64 t150, .int .i64 t151, .int .i64 t152, .int .i64 10]) (ok := fun _ => True) (okp := fun _ => True) ?hr ?hp (fun _ hk => hk) trivial (Below.refl _ _) (Nat.le_refl _) (by simp) ?_; (case hd => rfl); (case hg => rfl); (case hr => first | (go_simp; done) | (go_simp; rfl)); (case hp => exact (Reps.c7 (show Kd.M k26 _ _ _ (⟨(⟨t147, t148, t149, t150, t151, t152⟩ : S24), 10⟩ : S26) [.int .i64 t147, .int .i64 t148, .int .i64 t149, .int .i64 t150, .int .i64 t151, .int .i64 t152, .int .i64 10] from (k26_mkM _ _ _ (⟨(⟨t147, t148, t149, t150, t151, t152⟩ : S24), 10⟩ : S26) )) (Reps.none _ _))); intro v155 w18 ho19 hb hg_ hnew_; clear hg_ hnew_; (first | rw [← Ny154.out] at ho19 | (simp only [Int.reduceToNat] at ho19; rw [← Ny154.out] at ho19)); have n0_ := Aside0.mk (Kd.R_lower (Kd.R_newB ho19 (g := gb153) (o := .cells #[.int .i64 t147, .int .i64 t148, .int .i64 t149, .int .i64 t150, .int .i64 t151, .int .i64 t152, .int .i64 10] 26 (0, 0)) (by (with_reducible repeat (first | refine bN ?_ _ | refine bD ?_ | refine bA ?_ _)); refine blk_put (cs := #[.int .i64 t147, .int .i64 t148, .int .i64 t149, .int .i64 t150, .int .i64 t151, .int .i64 t152, .int .i64 0]) ?_ 6 _ rfl; (with_reducible repeat (first | refine bN ?_ _ | refine bD ?_ | refine bA ?_ _)); refine blk_put (cs := #[.int .i64 t147, .int .i64 t148, .int .i64 t149, .int .i64 t150, .int .i64 t151, .int .i64 0, .int .i64 0]) ?_ 5 _ rfl; (with_reducible repeat (first | refine bN ?_ _ | refine bD ?_ | refine bA ?_ _)); refine blk_put (cs := #[.int .i64 t147, .int .i64 t148, .int .i64 t149, .int .i64 t150, .int .i64 0, .int .i64 0, .int .i64 0]) ?_ 4 _ rfl; (with_reducible repeat (first | refine bN ?_ _ | refine bD ?_ | refine bA ?_ _)); refine blk_put (cs := #[.int .i64 t147, .int .i64 t148, .int .i64 t149, .int .i64 0, .int .i64 0, .int .i64 0, .int .i64 0]) ?_ 3 _ rfl; (with_reducible repeat (first | refine bN ?_ _ | refine bD ?_ | refine bA ?_ _)); refine blk_put (cs := #[.int .i64 t147, .int .i64 t148, .int .i64 0, .int .i64 0, .int .i64 0, .int .i64 0, .int .i64 0]) ?_ 2 _ rfl; (with_reducible repeat (first | refine bN ?_ _ | refine bD ?_ | refine bA ?_ _)); refine blk_put (cs := #[.int .i64 t147, .int .i64 0, .int .i64 0, .int .i64 0, .int .i64 0, .int .i64 0, .int .i64 0]) ?_ 1 _ rfl; (with_reducible repeat (first | refine bN ?_ _ | refine bD ?_ | refine bA ?_ _)); refine blk_put (cs := #[.int .i64 0, .int .i64 0, .int .i64 0, .int .i64 0, .int .i64 0, .int .i64 0, .int .i64 0]) ?_ 0 _ rfl; (with_reducible repeat (first | refine bN ?_ _ | refine bD ?_ | refine bA ?_ _)); exact BK153.out)) (below_size (by repeat (first | (with_reducible first | exact HB.out | apply below_alloc | apply pw_below_drewN | apply below_drew1 | refine below_set ?_ GE153.out) | exact HB.out)))); have n1_ := Aside0.mk (blk_below (g := gb153) (o := .cells #[.int .i64 t147, .int .i64 t148, .int .i64 t149, .int .i64 t150, .int .i64 t151, .int .i64 t152, .int .i64 10] 26 (0, 0)) (by (with_reducible repeat (first | refine bN ?_ _ | refine bD ?_ | refine bA ?_ _)); refine blk_put (cs := #[.int .i64 t147, .int .i64 t148, .int .i64 t149, .int .i64 t150, .int .i64 t151, .int .i64 t152, .int .i64 0]) ?_ 6 _ rfl; (with_reducible repeat (first | refine bN ?_ _ | refine bD ?_ | refine bA ?_ _)); refine blk_put (cs := #[.int .i64 t147, .int .i64 t148, .int .i64 t149, .int .i64 t150, .int .i64 t151, .int .i64 0, .int .i64 0]) ?_ 5 _ rfl; (with_reducible repeat (first | refine bN ?_ _ | refine bD ?_ | refine bA ?_ _)); refine blk_put (cs := #[.int .i64 t147, .int .i64 t148, .int .i64 t149, .int .i64 t150, .int .i64 0, .int .i64 0, .int .i64 0]) ?_ 4 _ rfl; (with_reducible repeat (first | refine bN ?_ _ | refine bD ?_ | refine bA ?_ _)); refine blk_put (cs := #[.int .i64 t147, .int .i64 t148, .int .i64 t149, .int .i64 0, .int .i64 0, .int .i64 0, .int .i64 0]) ?_ 3 _ rfl; (with_reducible repeat (first | refine bN ?_ _ | refine bD ?_ | refine bA ?_ _)); refine blk_put (cs := #[.int .i64 t147, .int .i64 t148, .int .i64 0, .int .i64 0, .int .i64 0, .int .i64 0, .int .i64 0]) ?_ 2 _ rfl; (with_reducible repeat (first | refine bN ?_ _ | refine bD ?_ | refine bA ?_ _)); refine blk_put (cs := #[.int .i64 t147, .int .i64 0, .int .i64 0, .int .i64 0, .int .i64 0, .int .i64 0, .int .i64 0]) ?_ 1 _ rfl; (with_reducible repeat (first | refine bN ?_ _ | refine bD ?_ | refine bA ?_ _)); refine blk_put (cs := #[.int .i64 0, .int .i64 0, .int .i64 0, .int .i64 0, .int .i64 0, .int .i64 0, .int .i64 0]) ?_ 0 _ rfl; (with_reducible repeat (first | refine bN ?_ _ | refine bD ?_ | refine bA ?_ _)); exact BK153.out) hb); have n2_ := bs HB hb; clear BK153; clear HB; have HO156 := n0_; have BK153 := n1_; have HB := n2_; clear n0_ n1_ n2_; clear hb ho19; (try clear hcz17_0 hcz17_1 hcz17_2 hcz17_3 hcz17_4 hcz17_5 hcz17_6 hfz17_0 hfz17_1 hfz17_2 hfz17_3 hfz17_4 hfz17_5 hfz17_6); obtain ⟨hcz20_0, hcz20_1, hcz20_2, hcz20_3, hcz20_4, hcz20_5, hcz20_6⟩ := cc7 BK153; obtain ⟨hfz20_0, hfz20_1, hfz20_2, hfz20_3, hfz20_4, hfz20_5, hfz20_6⟩ := cf7 BK153) | ((with_reducible refine gate_callee (f := 11) rfl ?_); refine goesL_ (some 8) rfl rfl Try.func11 (by kernel_rfl) rfl #[.agg #[.int .i64 t147, .int .i64 t148, .int .i64 t149, .int .i64 t150, .int .i64 t151, .int .i64 t152, .int .i64 10], .int .i64 9] rfl (by (try simp only [List.map_toArray, List.map_cons, List.map_nil]); first | done | rfl | (simp only [List.length_drop, List.length_take]; rfl)) ?_; (with_reducible refine (demand_Of.calls t147 t148 t149 t150 t151 t152 10 9 t157 _ A2.out).mono ?_); rintro e w21 ⟨rfl, hb⟩; refine ⟨_, rfl, ?_⟩; have n0_ := Aside0.mk (Kd.R_below (by (with_reducible repeat (first | apply Kd.R_alloc | apply Kd.R_drewN | apply Kd.R_drew)); exact HO156.out) hb); have n1_ := bb BK153 hb; have n2_ := bs HB hb; clear HO156; clear BK153; clear HB; have HO156 := n0_; have BK153 := n1_; have HB := n2_; clear n0_ n1_ n2_; (try clear hb); (try clear hb2); (try clear hk); (try clear hi); (try clear hcz17_0 hcz17_1 hcz17_2 hcz17_3 hcz17_4 hcz17_5 hcz17_6 hfz17_0 hfz17_1 hfz17_2 hfz17_3 hfz17_4 hfz17_5 hfz17_6); (try clear hcz20_0 hcz20_1 hcz20_2 hcz20_3 hcz20_4 hcz20_5 hcz20_6 hfz20_0 hfz20_1 hfz20_2 hfz20_3 hfz20_4 hfz20_5 hfz20_6); obtain ⟨hcz22_0, hcz22_1, hcz22_2, hcz22_3, hcz22_4, hcz22_5, hcz22_6⟩ := cc7 BK153; obtain ⟨hfz22_0, hfz22_1, hfz22_2, hfz22_3, hfz22_4, hfz22_5, hfz22_6⟩ := cf7 BK153) | (go_at_call 11; (with_reducible refine (demand_Of.calls t147 t148 t149 t150 t151 t152 10 10 t158 _ A4.out).mono ?_); rintro e w23 ⟨rfl, hb⟩; have n0_ := Aside0.mk (Kd.R_below (by (with_reducible repeat (first | apply Kd.R_alloc | apply Kd.R_drewN | apply Kd.R_drew)); exact HO156.out) hb); have n1_ := bb BK153 hb; have n2_ := bs HB hb; clear HO156; clear BK153; clear HB; have HO156 := n0_; have BK153 := n1_; have HB := n2_; clear n0_ n1_ n2_; (try clear hb); (try clear hb2); (try clear hk); (try clear hi); (try clear hcz17_0 hcz17_1 hcz17_2 hcz17_3 hcz17_4 hcz17_5 hcz17_6 hfz17_0 hfz17_1 hfz17_2 hfz17_3 hfz17_4 hfz17_5 hfz17_6); (try clear hcz20_0 hcz20_1 hcz20_2 hcz20_3 hcz20_4 hcz20_5 hcz20_6 hfz20_0 hfz20_1 hfz20_2 hfz20_3 hfz20_4 hfz20_5 hfz20_6); (try clear hcz22_0 hcz22_1 hcz22_2 hcz22_3 hcz22_4 hcz22_5 hcz22_6 hfz22_0 hfz22_1 hfz22_2 hfz22_3 hfz22_4 hfz22_5 hfz22_6); obtain ⟨hcz24_0, hcz24_1, hcz24_2, hcz24_3, hcz24_4, hcz24_5, hcz24_6⟩ := cc7 BK153; obtain ⟨hfz24_0, hfz24_1, hfz24_2, hfz24_3, hfz24_4, hfz24_5, hfz24_6⟩ := cf7 BK153) | (go_at_call 11; (with_reducible refine (demand_Of.calls t147 t148 t149 t150 t151 t152 10 29 t159 _ A6.out).mono ?_); rintro e w25 ⟨rfl, hb⟩; have n0_ := Aside0.mk (Kd.R_below (by (with_reducible repeat (first | apply Kd.R_alloc | apply Kd.R_drewN | apply Kd.R_drew)); exact HO156.out) hb); have n1_ := bb BK153 hb; have n2_ := bs HB hb; clear HO156; clear BK153; clear HB; have HO156 := n0_; have BK153 := n1_; have HB := n2_; clear n0_ n1_ n2_; (try clear hb); (try clear hb2); (try clear hk); (try clear hi); (try clear hcz17_0 hcz17_1 hcz17_2 hcz17_3 hcz17_4 hcz17_5 hcz17_6 hfz17_0 hfz17_1 hfz17_2 hfz17_3 hfz17_4 hfz17_5 hfz17_6); (try clear hcz20_0 hcz20_1 hcz20_2 hcz20_3 hcz20_4 hcz20_5 hcz20_6 hfz20_0 hfz20_1 hfz20_2 hfz20_3 hfz20_4 hfz20_5 hfz20_6); (try clear hcz22_0 hcz22_1 hcz22_2 hcz22_3 hcz22_4 hcz22_5 hcz22_6 hfz22_0 hfz22_1 hfz22_2 hfz22_3 hfz22_4 hfz22_5 hfz22_6); (try clear hcz24_0 hcz24_1 hcz24_2 hcz24_3 hcz24_4 hcz24_5 hcz24_6 hfz24_0 hfz24_1 hfz24_2 hfz24_3 hfz24_4 hfz24_5 hfz24_6); obtain ⟨hcz26_0, hcz26_1, hcz26_2, hcz26_3, hcz26_4, hcz26_5, hcz26_6⟩ := cc7 BK153; obtain ⟨hfz26_0, hfz26_1, hfz26_2, hfz26_3, hfz26_4, hfz26_5, hfz26_6⟩ := cf7 BK153) | (go_at_call 11; (with_reducible refine (demand_Of.calls t147 t148 t149 t150 t151 t152 10 30 t160 _ A8.out).mono ?_); rintro e w27 ⟨rfl, hb⟩; have n0_ := Aside0.mk (Kd.R_below (by (with_reducible repeat (first | apply Kd.R_alloc | apply Kd.R_drewN | apply Kd.R_drew)); exact HO156.out) hb); have n1_ := bb BK153 hb; have n2_ := bs HB hb; clear HO156; clear BK153; clear HB; have HO156 := n0_; have BK153 := n1_; have HB := n2_; clear n0_ n1_ n2_; (try clear hb); (try clear hb2); (try clear hk); (try clear hi); obtain ⟨Ao28, co28, eo28⟩ := Kd.R_slice HO156.out; subst eo28) | (go_at_call 13; (with_reducible refine (demand_May.calls k _ _ y154 true _ ?side1 ?side2 A10.out).mono ?_); (case side1 => repeat (first | exact (Kd.R_reads' HO156.out).2.2 | (with_reducible refine Kd.C_alloc ?_ _) | (with_reducible refine Kd.C_drewN ?_ _) | (with_reducible refine Kd.C_drew ?_))); (case side2 => exact (Kd.R_reads' HO156.out).2.1); rintro e w29 ⟨rfl, hb⟩; have n0_ := Aside0.mk (Kd.R_below (by (with_reducible repeat (first | apply Kd.R_alloc | apply Kd.R_drewN | apply Kd.R_drew)); exact HO156.out) hb); have n1_ := bb BK153 hb; have n2_ := bs HB hb; clear HO156; clear BK153; clear HB; have HO156 := n0_; have BK153 := n1_; have HB := n2_; clear n0_ n1_ n2_; (try clear hb); (try clear hb2); (try clear hk); (try clear hi)) | (go_at_call 14; (with_reducible refine (demand_Horizon.calls k _ _ y154 t162 _ ?side1 ?side2 A12.out).mono ?_); (case side1 => repeat (first | exact (Kd.R_reads' HO156.out).2.2 | (with_reducible refine Kd.C_alloc ?_ _) | (with_reducible refine Kd.C_drewN ?_ _) | (with_reducible refine Kd.C_drew ?_))); (case side2 => exact (Kd.R_reads' HO156.out).2.1); rintro e w30 ⟨rfl, hb⟩; have n0_ := Aside0.mk (Kd.R_below (by (with_reducible repeat (first | apply Kd.R_alloc | apply Kd.R_drewN | apply Kd.R_drew)); exact HO156.out) hb); have n1_ := bb BK153 hb; have n2_ := bs HB hb; clear HO156; clear BK153; clear HB; have HO156 := n0_; have BK153 := n1_; have HB := n2_; clear n0_ n1_ n2_; (try clear hb); (try clear hb2); (try clear hk); (try clear hi)) | (go_at_call 15; (with_reducible refine (demand_Test.calls k _ _ y154 t163 _ ?side1 ?side2 A14.out).mono ?_); (case side1 => repeat (first | exact (Kd.R_reads' HO156.out).2.2 | (with_reducible refine Kd.C_alloc ?_ _) | (with_reducible refine Kd.C_drewN ?_ _) | (with_reducible refine Kd.C_drew ?_))); (case side2 => exact (Kd.R_reads' HO156.out).2.1); rintro e w31 ⟨rfl, hb⟩; have n0_ := Aside0.mk (Kd.R_below (by (with_reducible repeat (first | apply Kd.R_alloc | apply Kd.R_drewN | apply Kd.R_drew)); exact HO156.out) hb); have n1_ := bb BK153 hb; have n2_ := bs HB hb; clear HO156; clear BK153; clear HB; have HO156 := n0_; have BK153 := n1_; have HB := n2_; clear n0_ n1_ n2_; (try clear hb); (try clear hb2); (try clear hk); (try clear hi)))
              go_ret
              exact ⟨by first | rfl | (simp [errW_none, errW_some] <;> rfl) | (simp [*, errW_none, errW_some] <;> rfl) | (exfalso; contradiction), by repeat (first | (with_reducible first | exact HB.out | apply below_alloc | apply pw_below_drewN | apply below_drew1 | refine below_set ?_ GE153.out) | exact HB.out)⟩
            · rw [if_neg c13] at H
              exact absurd H (by simp)
          · replace c11 := Bool.eq_false_iff.mpr c11
            subst c11
            rw [if_neg (show ¬ (false = true) by decide)] at H
            exact absurd H (by simp)
        · rw [if_neg c9] at H
          exact absurd H (by simp)
      · rw [if_neg c7] at H
        exact absurd H (by simp)
    · rw [if_neg c5] at H
      exact absurd H (by simp)
  · rw [if_neg c3] at H
    exact absurd H (by simp)

end Go.Proofs.Ytngledpkoeioiaa.P
