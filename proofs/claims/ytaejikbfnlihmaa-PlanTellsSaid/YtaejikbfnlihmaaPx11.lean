-- Written by a program of this session (hprint.py), out of the translation; functions that the print does not take are given by hand.
import Derived.Test.YtaejikbfnlihmaaPx0
import Derived.Test.YtaejikbfnlihmaaPx8
import Derived.Test.YtaejikbfnlihmaaPx9
import Derived.Test.YtaejikbfnlihmaaPx10
namespace Go.Proofs.Ytaejikbfnlihmaa.P
open Go.RowKit Go.Proofs.YtaejikbfnlihmaaM Go.Proofs.YtaejikbfnlihmaaW.PrintWords Go.Proofs.YtaejikbfnlihmaaW.PrintLast Go.Proofs.YtaejikbfnlihmaaW.PrintMore
attribute [local go_sem] max2_int min2_int max_two min_two max_three min_three max_four min_four   -- for this text's walks alone
set_option linter.unusedVariables false
set_option linter.unusedSimpArgs false

/-! ### demand_Test: function 20 -/
def demand_Test.l0 : Nat → List (S42) → Int → Option Bool
  | 0, _, _ => none
  | k + 1, l, n => if n = 0 then some true else (demand_All.f k l n).bind fun m => if m > n then some false else if m < n ∧ m > 0 then ((demand_last.f k l (wrap64 (m + 1))).bind fun t => demand_Test.l0 k l t) else if m = n then ((demand_last.f k l n).bind fun t => demand_Test.l0 k l t) else some true
def demand_Test.f (k : Nat) (l0 : List (S42)) : Option Bool := (demand_May.f k l0).bind fun t => if t = true then ((demand_Horizon.f k l0).bind fun h => (demand_last.f k l0 h).bind fun n => demand_Test.l0 k l0 n) else some false
theorem demand_Test.mono_l : ∀ k, (∀ y0 y1, LeO (demand_Test.l0 k y0 y1) (demand_Test.l0 (k + 1) y0 y1))
  | 0 => fun _ _ r h => by simp [demand_Test.l0] at h
  | k + 1 => by
    have ih0 := demand_Test.mono_l k
    intro l n r h
    rw [demand_Test.l0] at h ⊢
    by_cases c : n = 0
    · rw [if_pos c] at h ⊢; exact h
    · rw [if_neg c] at h ⊢
      obtain ⟨m, hm, h⟩ := Option.bind_eq_some_iff.mp h
      rw [demand_All.mono _ _ _ _ hm, Option.bind_some]
      by_cases c1 : m > n
      · rw [if_pos c1] at h ⊢; exact h
      · rw [if_neg c1] at h ⊢
        by_cases c2 : m < n ∧ m > 0
        · rw [if_pos c2] at h ⊢
          obtain ⟨t, ht, h⟩ := Option.bind_eq_some_iff.mp h
          rw [demand_last.mono _ _ _ _ ht, Option.bind_some]
          exact ih0 _ _ _ h
        · rw [if_neg c2] at h ⊢
          by_cases c3 : m = n
          · rw [if_pos c3] at h ⊢
            obtain ⟨t, ht, h⟩ := Option.bind_eq_some_iff.mp h
            rw [demand_last.mono _ _ _ _ ht, Option.bind_some]
            exact ih0 _ _ _ h
          · rw [if_neg c3] at h ⊢; exact h
theorem demand_Test.mono : ∀ a0 k, LeO (demand_Test.f k a0) (demand_Test.f (k + 1) a0) := by
  intro l k r h
  unfold demand_Test.f at h ⊢
  obtain ⟨t, ht, h⟩ := Option.bind_eq_some_iff.mp h
  rw [demand_May.mono _ _ _ ht, Option.bind_some]
  by_cases c : t = true
  · rw [if_pos c] at h ⊢
    obtain ⟨x, hx, h⟩ := Option.bind_eq_some_iff.mp h
    obtain ⟨n, hn, h⟩ := Option.bind_eq_some_iff.mp h
    rw [demand_Horizon.mono _ _ _ hx, Option.bind_some, demand_last.mono _ _ _ _ hn, Option.bind_some]
    exact demand_Test.mono_l _ _ _ _ h
  · rw [if_neg c] at h ⊢; exact h
/-- What stands at the label: so much fuel is left. -/
def demand_Test.R (w : World) (A0 : Option Addr) (c0 : Nat) (l0 : List (S42)) (r : Bool) (k : Nat) (a : Act) (W : World) : Prop :=
  ∃ (n : Int) (u1 u2 u4 u5 u6 u7 u8 u9 u10 u11 u12 u13 u14 u15 u16 u17 u18 u19 u20 u21 u22 u23 u24 u25 u26 u27 u28 u29 u30 u31 u32 u33 u34 u35 u36 u37 u38 u39 : Value), a = { tmps := #[.slice A0 l0.length c0, u1, u2, .int .i64 n, u4, u5, u6, u7, u8, u9, u10, u11, u12, u13, u14, u15, u16, u17, u18, u19, u20, u21, u22, u23, u24, u25, u26, u27, u28, u29, u30, u31, u32, u33, u34, u35, u36, u37, u38, u39], defers := [] } ∧ demand_Test.l0 k l0 n = some r ∧ Below w.heap.size w W
open Classical in
noncomputable def demand_Test.mu (R : Nat → Prop) : Nat := if h : ∃ k, R k ∧ ∀ j, j < k → ¬ R j then Classical.choose h else 0
theorem demand_Test.mu_least {R : Nat → Prop} (h : ∃ k, R k) : R (demand_Test.mu R) ∧ ∀ k, R k → demand_Test.mu R ≤ k := by
  have h2 : ∃ k, R k ∧ ∀ j, j < k → ¬ R j := by
    obtain ⟨k, hk⟩ := h
    induction k using Nat.strongRecOn with
    | ind k ih =>
      by_cases c : ∃ j, j < k ∧ R j
      · obtain ⟨j, hj, hr⟩ := c; exact ih j hj hr
      · exact ⟨k, hk, fun j hj hr => c ⟨j, hj, hr⟩⟩
  unfold demand_Test.mu
  rw [dif_pos h2]
  have hs := Classical.choose_spec h2
  exact ⟨hs.1, fun k hk => Nat.le_of_not_lt fun hlt => hs.2 k hlt hk⟩
theorem demand_Test.mu_lt {R S : Nat → Prop} {k : Nat} (hk : S k) (hlt : k < demand_Test.mu R) : (∃ k, S k) ∧ demand_Test.mu S < demand_Test.mu R :=
  ⟨⟨k, hk⟩, Nat.lt_of_le_of_lt ((demand_Test.mu_least ⟨k, hk⟩).2 k hk) hlt⟩
set_option maxHeartbeats 8000000 in
set_option maxRecDepth 100000 in
theorem demand_Test.calls (k : Nat) (A0 : Option Addr) (c0 : Nat) (l0 : List (S42)) (r : Bool) (w : World) (hr0 : Kd.C k42 w A0 l0.length l0) (hc0 : l0.length ≤ c0) (h : demand_Test.f k l0 = some r) :
    Calls Try.prog 20 #[.slice A0 l0.length c0] w fun e w' => e = .returned (.bool r) ∧ Below w.heap.size w w' := by
  have HR0 := Aside0.mk hr0
  have HC0 := Aside0.mk hc0
  clear hr0 hc0
  have HB := Aside0.mk (Below.refl w.heap.size w)
  unfold demand_Test.f at h
  obtain ⟨t, ht, h⟩ := Option.bind_eq_some_iff.mp h
  have HT := Aside0.mk ht
  clear ht
  cases t with
  | false =>
    rw [if_neg (by decide)] at h
    obtain rfl := Option.some.inj h
    clear h
    go_enter Try.func20, Try.ntmps20
    go_wp2
    refine wp_scope_straight ?_
    go_wp2_with (go_at_call 19; (with_reducible refine (demand_May.calls k _ _ l0 false _ (by repeat (first | exact HR0.out | (with_reducible refine Kd.C_alloc ?_ _))) HC0.out HT.out).mono ?_); rintro e w1 ⟨rfl, hb⟩; have HB1 := bs HB hb; clear hb)
    rw [Exit.noGoto_ret]
    go_ret
    exact ⟨rfl, HB1.out⟩
  | true =>
    rw [if_pos rfl] at h
    obtain ⟨x, hx, h⟩ := Option.bind_eq_some_iff.mp h
    obtain ⟨n0, hn, h⟩ := Option.bind_eq_some_iff.mp h
    have HX := Aside0.mk hx
    have HN := Aside0.mk hn
    have HH := Aside0.mk h
    clear hx hn h
    go_enter Try.func20, Try.ntmps20
    go_wp2
    refine wp_scope_jumps 0 (fun a W => ∃ k, demand_Test.R w A0 c0 l0 r k a W) (fun a W => demand_Test.mu (fun k => demand_Test.R w A0 c0 l0 r k a W)) rfl ?_ ?_
    · go_wp2_with (first | (go_at_call 19; (with_reducible refine (demand_May.calls k _ _ l0 true _ (by repeat (first | exact HR0.out | (with_reducible refine Kd.C_alloc ?_ _))) HC0.out HT.out).mono ?_); rintro e w1 ⟨rfl, hb⟩; have HB1 := bs HB hb; clear hb) | (go_at_call 45; (with_reducible refine (demand_Horizon.calls k _ _ l0 x _ (Kd.C_below HR0.out HB1.out) HC0.out HX.out).mono ?_); rintro e w2 ⟨rfl, hb⟩; have HB2 := bs HB1 hb; clear hb) | (go_at_call 44; (with_reducible refine (demand_last.calls k _ _ l0 x n0 _ (Kd.C_below HR0.out HB2.out) HC0.out HN.out).mono ?_); rintro e w3 ⟨rfl, hb⟩; have HB3 := bs HB2 hb; clear hb))
      go_step3
      obtain ⟨n, rfl⟩ : ∃ n : Int, n = n0 := ⟨n0, rfl⟩
      obtain ⟨kk, rfl⟩ : ∃ kk : Nat, kk = k := ⟨k, rfl⟩
      have HL := Aside0.mk HH.out
      clear HH HN HX HT
      cases kk with
      | zero => exact absurd HL.out (by simp [demand_Test.l0])
      | succ k1 =>
        have H := HL.out
        clear HL
        rw [demand_Test.l0] at H
        by_cases c1 : n = 0
        · subst c1
          rw [if_pos rfl] at H
          obtain rfl := Option.some.inj H
          clear H
          go_wp2
          simp only [Exit.jump]
          go_ret
          exact ⟨rfl, HB3.out⟩
        · rw [if_neg c1] at H
          have e1 : (n == 0) = false := beq_eq_false_iff_ne.mpr c1
          clear c1
          obtain ⟨m, hm, H⟩ := Option.bind_eq_some_iff.mp H
          have HM := Aside0.mk hm
          clear hm
          by_cases c2 : m > n
          · rw [if_pos c2] at H
            obtain rfl := Option.some.inj H
            have e2 : decide (n < m) = true := decide_eq_true c2
            clear H c2
            go_wp2_with (first | (go_at_call 46; (with_reducible refine (demand_All.calls k1 _ _ l0 n m _ (Kd.C_below HR0.out HB3.out) HC0.out HM.out).mono ?_); rintro e w4 ⟨rfl, hb⟩; have HB4 := bs HB3 hb; clear hb))
            simp only [Exit.jump]
            go_ret
            exact ⟨rfl, HB4.out⟩
          · rw [if_neg c2] at H
            have e2 : decide (n < m) = false := decide_eq_false c2
            by_cases c3 : m < n ∧ m > 0
            · rw [if_pos c3] at H
              obtain ⟨t, ht, H⟩ := Option.bind_eq_some_iff.mp H
              have HT2 := Aside0.mk ht
              have HH2 := Aside0.mk H
              have e3 : decide (m < n) = true := decide_eq_true c3.1
              have e4 : decide (0 < m) = true := decide_eq_true c3.2
              clear H ht c2 c3
              go_wp2_with (first | (go_at_call 46; (with_reducible refine (demand_All.calls k1 _ _ l0 n m _ (Kd.C_below HR0.out HB3.out) HC0.out HM.out).mono ?_); rintro e w4 ⟨rfl, hb⟩; have HB4 := bs HB3 hb; clear hb) | (go_at_call 44; (with_reducible refine (demand_last.calls k1 _ _ l0 (wrap64 (m + 1)) t _ (Kd.C_below HR0.out HB4.out) HC0.out HT2.out).mono ?_); rintro e w5 ⟨rfl, hb⟩; have HB5 := bs HB4 hb; clear hb))
              go_step3
              exact ⟨rfl, k1, ⟨t, _, _, _, _, _, _, _, _, _, _, _, _, _, _, _, _, _, _, _, _, _, _, _, _, _, _, _, _, _, _, _, _, _, _, _, _, _, _, rfl, HH2.out, HB5.out⟩⟩
            · rw [if_neg c3] at H
              by_cases c4 : m = n
              · rw [if_pos c4] at H
                subst c4
                obtain ⟨t, ht, H⟩ := Option.bind_eq_some_iff.mp H
                have HT2 := Aside0.mk ht
                have HH2 := Aside0.mk H
                clear H ht c2 c3
                go_wp2_with (first | (go_at_call 46; (with_reducible refine (demand_All.calls k1 _ _ l0 m m _ (Kd.C_below HR0.out HB3.out) HC0.out HM.out).mono ?_); rintro e w4 ⟨rfl, hb⟩; have HB4 := bs HB3 hb; clear hb) | (go_at_call 44; (with_reducible refine (demand_last.calls k1 _ _ l0 (m) t _ (Kd.C_below HR0.out HB4.out) HC0.out HT2.out).mono ?_); rintro e w5 ⟨rfl, hb⟩; have HB5 := bs HB4 hb; clear hb))
                go_step3
                exact ⟨rfl, k1, ⟨t, _, _, _, _, _, _, _, _, _, _, _, _, _, _, _, _, _, _, _, _, _, _, _, _, _, _, _, _, _, _, _, _, _, _, _, _, _, _, rfl, HH2.out, HB5.out⟩⟩
              · rw [if_neg c4] at H
                obtain rfl := Option.some.inj H
                have e3 : decide (m < n) = true := decide_eq_true (by omega)
                have e4 : decide (0 < m) = false := decide_eq_false (by omega)
                have e5 : (m == n) = false := beq_eq_false_iff_ne.mpr c4
                clear H c2 c3 c4
                go_wp2_with (first | (go_at_call 46; (with_reducible refine (demand_All.calls k1 _ _ l0 n m _ (Kd.C_below HR0.out HB3.out) HC0.out HM.out).mono ?_); rintro e w4 ⟨rfl, hb⟩; have HB4 := bs HB3 hb; clear hb))
                simp only [Exit.jump]
                go_ret
                exact ⟨rfl, HB4.out⟩
    · rintro a' w' ⟨k0, hk0⟩
      obtain ⟨hR, hL⟩ := demand_Test.mu_least (R := fun k => demand_Test.R w A0 c0 l0 r k a' w') ⟨k0, hk0⟩
      clear hL hk0
      obtain ⟨kk, hkk⟩ : ∃ kk, kk = demand_Test.mu (fun k => demand_Test.R w A0 c0 l0 r k a' w') := ⟨_, rfl⟩
      rw [← hkk] at hR
      have HK := Aside0.mk hkk
      obtain ⟨n, u1, u2, u4, u5, u6, u7, u8, u9, u10, u11, u12, u13, u14, u15, u16, u17, u18, u19, u20, u21, u22, u23, u24, u25, u26, u27, u28, u29, u30, u31, u32, u33, u34, u35, u36, u37, u38, u39, rfl, hl, hb⟩ := hR
      have HB := Aside0.mk hb
      have HL := Aside0.mk hl
      clear hb hl hkk HH HN HX HT
      cases kk with
      | zero => exact absurd HL.out (by simp [demand_Test.l0])
      | succ k1 =>
        have H := HL.out
        clear HL
        rw [demand_Test.l0] at H
        by_cases c1 : n = 0
        · subst c1
          rw [if_pos rfl] at H
          obtain rfl := Option.some.inj H
          clear H
          go_wp2
          simp only [Exit.jump]
          go_ret
          exact ⟨rfl, HB.out⟩
        · rw [if_neg c1] at H
          have e1 : (n == 0) = false := beq_eq_false_iff_ne.mpr c1
          clear c1
          obtain ⟨m, hm, H⟩ := Option.bind_eq_some_iff.mp H
          have HM := Aside0.mk hm
          clear hm
          by_cases c2 : m > n
          · rw [if_pos c2] at H
            obtain rfl := Option.some.inj H
            have e2 : decide (n < m) = true := decide_eq_true c2
            clear H c2
            go_wp2_with (first | (go_at_call 46; (with_reducible refine (demand_All.calls k1 _ _ l0 n m _ (Kd.C_below HR0.out HB.out) HC0.out HM.out).mono ?_); rintro e w4 ⟨rfl, hb⟩; have HB4 := bs HB hb; clear hb))
            simp only [Exit.jump]
            go_ret
            exact ⟨rfl, HB4.out⟩
          · rw [if_neg c2] at H
            have e2 : decide (n < m) = false := decide_eq_false c2
            by_cases c3 : m < n ∧ m > 0
            · rw [if_pos c3] at H
              obtain ⟨t, ht, H⟩ := Option.bind_eq_some_iff.mp H
              have HT2 := Aside0.mk ht
              have HH2 := Aside0.mk H
              have e3 : decide (m < n) = true := decide_eq_true c3.1
              have e4 : decide (0 < m) = true := decide_eq_true c3.2
              clear H ht c2 c3
              go_wp2_with (first | (go_at_call 46; (with_reducible refine (demand_All.calls k1 _ _ l0 n m _ (Kd.C_below HR0.out HB.out) HC0.out HM.out).mono ?_); rintro e w4 ⟨rfl, hb⟩; have HB4 := bs HB hb; clear hb) | (go_at_call 44; (with_reducible refine (demand_last.calls k1 _ _ l0 (wrap64 (m + 1)) t _ (Kd.C_below HR0.out HB4.out) HC0.out HT2.out).mono ?_); rintro e w5 ⟨rfl, hb⟩; have HB5 := bs HB4 hb; clear hb))
              go_step3
              exact ⟨rfl, demand_Test.mu_lt (k := k1) ⟨t, _, _, _, _, _, _, _, _, _, _, _, _, _, _, _, _, _, _, _, _, _, _, _, _, _, _, _, _, _, _, _, _, _, _, _, _, _, _, rfl, HH2.out, HB5.out⟩ (by rw [← HK.out]; omega)⟩
            · rw [if_neg c3] at H
              by_cases c4 : m = n
              · rw [if_pos c4] at H
                subst c4
                obtain ⟨t, ht, H⟩ := Option.bind_eq_some_iff.mp H
                have HT2 := Aside0.mk ht
                have HH2 := Aside0.mk H
                clear H ht c2 c3
                go_wp2_with (first | (go_at_call 46; (with_reducible refine (demand_All.calls k1 _ _ l0 m m _ (Kd.C_below HR0.out HB.out) HC0.out HM.out).mono ?_); rintro e w4 ⟨rfl, hb⟩; have HB4 := bs HB hb; clear hb) | (go_at_call 44; (with_reducible refine (demand_last.calls k1 _ _ l0 (m) t _ (Kd.C_below HR0.out HB4.out) HC0.out HT2.out).mono ?_); rintro e w5 ⟨rfl, hb⟩; have HB5 := bs HB4 hb; clear hb))
                go_step3
                exact ⟨rfl, demand_Test.mu_lt (k := k1) ⟨t, _, _, _, _, _, _, _, _, _, _, _, _, _, _, _, _, _, _, _, _, _, _, _, _, _, _, _, _, _, _, _, _, _, _, _, _, _, _, rfl, HH2.out, HB5.out⟩ (by rw [← HK.out]; omega)⟩
              · rw [if_neg c4] at H
                obtain rfl := Option.some.inj H
                have e3 : decide (m < n) = true := decide_eq_true (by omega)
                have e4 : decide (0 < m) = false := decide_eq_false (by omega)
                have e5 : (m == n) = false := beq_eq_false_iff_ne.mpr c4
                clear H c2 c3 c4
                go_wp2_with (first | (go_at_call 46; (with_reducible refine (demand_All.calls k1 _ _ l0 n m _ (Kd.C_below HR0.out HB.out) HC0.out HM.out).mono ?_); rintro e w4 ⟨rfl, hb⟩; have HB4 := bs HB hb; clear hb))
                simp only [Exit.jump]
                go_ret
                exact ⟨rfl, HB4.out⟩

/-! ### spring_least: function 52 -/
def spring_least.f (a0_0 : Int) (a0_1 : Int) (a0_2 : Int) : Option (Int) := if a0_2 = 0 then (some a0_0) else (some a0_1)
set_option maxHeartbeats 8000000 in
set_option maxRecDepth 100000 in
theorem spring_least.calls (a0_0 : Int) (a0_1 : Int) (a0_2 : Int) (r : Int) (w : World) (h : spring_least.f a0_0 a0_1 a0_2 = some r) :
    Calls Try.prog 52 #[.agg #[.int .i64 a0_0, .int .i64 a0_1, .int .i64 a0_2]] w fun e w' => e = .returned (.int .i64 r) ∧ Below w.heap.size w w' := by
  have hu53 := Try.underlying53
  have HB := Aside0.mk (Below.refl w.heap.size w)
  have H : (if a0_2 = 0 then (some a0_0) else (some a0_1)) = some r := h
  clear h
  by_cases c2 : a0_2 = 0
  · rw [if_pos c2] at H
    have c2b0 : (a0_2 == 0) = true := beq_iff_eq.mpr c2
    have c2b1 : (a0_2 != 0) = false := bne_eq_false_iff_eq.mpr c2
    clear c2
    obtain rfl := Option.some.inj H
    go_enter Try.func52, Try.ntmps52
    go_wp2_with (first | ((with_reducible refine gate_dst (N := 1) rfl ?_); refine box_event ?hg (N := 1) ?hd (cs := #[.int .i64 a0_0, .int .i64 a0_1, .int .i64 a0_2]) (t := 53) ?hr ?_; (case hd => rfl); (case hg => rfl); (case hr => first | (go_simp; done) | (go_simp; rfl)); intro gb172 hg w3 hbox hb; have n0_ := bs HB hb; have n1_ := Aside0.mk (hbox); have n2_ := bz HB hg; have n3_ := bz HB hg; clear HB; have HB := n0_; have BK172 := n1_; have GW172 := n2_; have GE172 := n3_; clear n0_ n1_ n2_ n3_; clear hb hbox hg; obtain ⟨hcz4_0, hcz4_1, hcz4_2⟩ := cc3 BK172; obtain ⟨hfz4_0, hfz4_1, hfz4_2⟩ := cf3 BK172))
    go_ret
    exact ⟨by first | rfl | (simp [errW_none, errW_some] <;> rfl) | (simp [*, errW_none, errW_some] <;> rfl) | (exfalso; contradiction), by repeat (first | (with_reducible first | exact HB.out | apply below_alloc | apply pw_below_drewN | apply below_drew1 | refine below_set ?_ GE172.out) | exact HB.out)⟩
  · rw [if_neg c2] at H
    have c2b0 : (a0_2 == 0) = false := beq_eq_false_iff_ne.mpr c2
    have c2b1 : (a0_2 != 0) = true := bne_iff_ne.mpr c2
    obtain rfl := Option.some.inj H
    go_enter Try.func52, Try.ntmps52
    go_wp2_with (first | ((with_reducible refine gate_dst (N := 1) rfl ?_); refine box_event ?hg (N := 1) ?hd (cs := #[.int .i64 a0_0, .int .i64 a0_1, .int .i64 a0_2]) (t := 53) ?hr ?_; (case hd => rfl); (case hg => rfl); (case hr => first | (go_simp; done) | (go_simp; rfl)); intro gb172 hg w5 hbox hb; have n0_ := bs HB hb; have n1_ := Aside0.mk (hbox); have n2_ := bz HB hg; have n3_ := bz HB hg; clear HB; have HB := n0_; have BK172 := n1_; have GW172 := n2_; have GE172 := n3_; clear n0_ n1_ n2_ n3_; clear hb hbox hg; obtain ⟨hcz6_0, hcz6_1, hcz6_2⟩ := cc3 BK172; obtain ⟨hfz6_0, hfz6_1, hfz6_2⟩ := cf3 BK172))
    go_ret
    exact ⟨by first | rfl | (simp [errW_none, errW_some] <;> rfl) | (simp [*, errW_none, errW_some] <;> rfl) | (exfalso; contradiction), by repeat (first | (with_reducible first | exact HB.out | apply below_alloc | apply pw_below_drewN | apply below_drew1 | refine below_set ?_ GE172.out) | exact HB.out)⟩

/-! ### spring_each: function 51 -/
def spring_each.l0 : Nat → List Int → List (S53) → Int → Int → Option (List Int)
  | 0, _, _, _, _ => none
  | k + 1, x5, x8, x9, x10 => if x10 < x9 then (if 0 ≤ x10 then (if x10 < (x8.length : Int) then ((spring_least.f ((rd_T53 x8 x10).f0) ((rd_T53 x8 x10).f1) ((rd_T53 x8 x10).f2)).bind fun t175 => (if x5.length < 17592186044416 then (spring_each.l0 k (x5 ++ [t175]) x8 x9 (wrap64 (x10 + 1))) else (none))) else (none)) else (none)) else (some x5)
def spring_each.f (k : Nat) (l0 : List (S53)) : Option (List Int) := spring_each.l0 k ([] : List Int) l0 (l0.length : Int) 0
theorem spring_each.mono_l : ∀ k, (∀ y0 y1 y2 y3, LeO (spring_each.l0 k y0 y1 y2 y3) (spring_each.l0 (k + 1) y0 y1 y2 y3))
  | 0 => fun _ _ _ _ r h => by simp [spring_each.l0] at h
  | k + 1 => by
    have ih0 := spring_each.mono_l k
    · intro y0 y1 y2 y3
      unfold spring_each.l0
      repeat' first
      | (with_reducible exact ih0 _ _ _ _)
      | (with_reducible exact LeO.refl _)
      | (with_reducible exact LeO.none _)
      | (with_reducible refine LeO.ite ?_ ?_)
      | (with_reducible refine LeO.bind ?_ (fun _ => ?_))
      | exact ih0 _ _ _ _
      | exact LeO.none _
      | refine LeO.ite ?_ ?_
      | refine LeO.bind ?_ (fun _ => ?_)
theorem spring_each.mono : ∀ a0 k, LeO (spring_each.f k a0) (spring_each.f (k + 1) a0) := by
  intro a0 k
  have ih0 := spring_each.mono_l k
  unfold spring_each.f
  repeat' first
      | (with_reducible exact ih0 _ _ _ _)
      | (with_reducible exact LeO.refl _)
      | (with_reducible exact LeO.none _)
      | (with_reducible refine LeO.ite ?_ ?_)
      | (with_reducible refine LeO.bind ?_ (fun _ => ?_))
      | exact ih0 _ _ _ _
      | exact LeO.none _
      | refine LeO.ite ?_ ?_
      | refine LeO.bind ?_ (fun _ => ?_)
set_option maxHeartbeats 8000000 in
set_option maxRecDepth 100000 in
theorem spring_each.calls (k : Nat) (A0 : Option Addr) (c0 : Nat) (l0 : List (S53)) (r : List Int) (w : World) (hr0 : Kd.C k53 w A0 l0.length l0) (hc0 : l0.length ≤ c0) (h : spring_each.f k l0 = some r) :
    Calls Try.prog 51 #[.slice A0 l0.length c0, .func (.func 52) #[] #[]] w fun e w' => ∃ v0_ : Value, e = .returned (v0_) ∧ Kd.R (Kd.int .i64) 3 w' w.heap.size (fun _ => True) v0_ r ∧ Below w.heap.size w w' := by
  have hu53 := Try.underlying53
  have HR0 := Aside0.mk hr0
  have HC0 := Aside0.mk hc0
  clear hr0 hc0
  have HB := Aside0.mk (Below.refl w.heap.size w)
  have H : (spring_each.l0 k ([] : List Int) l0 (l0.length : Int) 0) = some r := h
  clear h
  have H' := Aside0.mk H
  clear H
  go_enter Try.func51, Try.ntmps51
  go_wp2
  go_loopg [5, 10] k (fun kq v5 v10 w' => ∃ (x5_1 : List Int) (x10_1 : Int), v10 = .int .i64 x10_1 ∧ Aside0 (spring_each.l0 kq x5_1 l0 (l0.length : Int) x10_1 = some r) ∧ Aside0 (kq ≤ k) ∧ Aside0 (Kd.R (Kd.int .i64) 3 w' w.heap.size (fun _ => True) v5 x5_1) ∧ Aside0 (Below w.heap.size w w'))
  case atStart => exact ⟨(([] : List Int)), (0), (by first | rfl | (simp; done) | (simp [*]; done)), H', ⟨Nat.le_refl _⟩, ⟨by first | exact Kd.R_nil _ _ _ _ _ | exact Kd.N_nil _ _ _ _ _ | exact Kd.V_nil _ _ _ _ _ | exact Kd.Q_nil _ _ _ _ _ | exact Kd.S_nil _ _ _ _ _⟩, ⟨by repeat (first | (with_reducible first | exact HB.out | apply below_alloc | apply pw_below_drewN | apply below_drew1) | exact HB.out)⟩⟩
  case round =>
    clear H'
    obtain ⟨x5_1, x10_1, rfl, HA, HK1, HO_5, HB⟩ := hrel
    cases gk with
    | zero => exact absurd HA.out (by simp [spring_each.l0])
    | succ k1 =>
      have H := HA.out
      clear HA
      simp only [spring_each.l0] at H
      by_cases c2 : x10_1 < (l0.length : Int)
      · rw [if_pos c2] at H
        have c2b0 : decide (x10_1 < (l0.length : Int)) = true := decide_eq_true c2
        clear c2
        by_cases c3 : 0 ≤ x10_1
        · rw [if_pos c3] at H
          have c3b0 : decide (0 ≤ x10_1) = true := decide_eq_true c3
          clear c3
          by_cases c4 : x10_1 < (l0.length : Int)
          · rw [if_pos c4] at H
            have c4b0 : decide (x10_1 < (l0.length : Int)) = true := decide_eq_true c4
            clear c4
            replace H := Option.bind_eq_some_iff.mp H
            obtain ⟨t175, A50, H⟩ := H
            try dsimp only at H
            have A5 := Aside0.mk A50
            clear A50
            by_cases c6 : x5_1.length < 17592186044416
            · rw [if_pos c6] at H
              have LMc6 := Aside0.mk c6
              clear c6
              obtain ⟨y176, hy176⟩ : ∃ y_ : List Int, y_ = (x5_1 ++ [t175]) := ⟨_, rfl⟩
              replace H : (spring_each.l0 k1 y176 l0 (l0.length : Int) (wrap64 (x10_1 + 1))) = some r := by first | (rw [hy176]; with_reducible exact H) | (have H2_ := (Option.bind_some _ _).symm.trans H; rw [hy176]; with_reducible exact H2_) | (have H2_ := (Option.bind_some _ _).symm.trans H; with_reducible exact H2_) | with_reducible exact H | (rw [hy176]; exact H) | exact H
              have Ny176 := Aside0.mk hy176
              clear hy176
              have H' := Aside0.mk H
              clear H
              have p173 : 0 ≤ (x10_1 : Int) := of_decide_eq_true (by first | (with_reducible assumption) | assumption)
              have q173 : x10_1 < (l0.length : Int) := of_decide_eq_true (by first | (with_reducible assumption) | assumption)
              obtain ⟨ad173, e173, hx173_0, hx173_1, hx173_2⟩ := at_T53 HR0.out x10_1 p173 q173
              cases e173
              replace hx173_0 := (HB.out.cell (World.block_lt_of_cell? w _ hx173_0)).trans hx173_0
              replace hx173_1 := (HB.out.cell (World.block_lt_of_cell? w _ hx173_1)).trans hx173_1
              replace hx173_2 := (HB.out.cell (World.block_lt_of_cell? w _ hx173_2)).trans hx173_2
              replace p173 := eq_true p173
              replace q173 := eq_true q173
              go_wp2_with (first | ((with_reducible refine gate_dst (N := 7) rfl ?_); refine box_event ?hg (N := 7) ?hd (cs := #[.int .i64 0, .int .i64 0, .int .i64 0]) (t := 53) ?hr ?_; (case hd => rfl); (case hg => rfl); (case hr => first | (go_simp; done) | (go_simp; rfl)); intro gb174 hg w7 hbox hb; have n0_ := Aside0.mk (Kd.R_below (by (with_reducible repeat (first | apply Kd.R_alloc | apply Kd.R_drewN | apply Kd.R_drew)); exact HO_5.out) hb); have n1_ := bs HB hb; have n2_ := Aside0.mk (hbox); have n3_ := bz HB hg; have n4_ := bz HB hg; clear HO_5; clear HB; have HO_5 := n0_; have HB := n1_; have BK174 := n2_; have GW174 := n3_; have GE174 := n4_; clear n0_ n1_ n2_ n3_ n4_; clear hb hbox hg; obtain ⟨hcz8_0, hcz8_1, hcz8_2⟩ := cc3 BK174; obtain ⟨hfz8_0, hfz8_1, hfz8_2⟩ := cf3 BK174) | (go_at_call 52; (with_reducible refine (spring_least.calls ((rd_T53 l0 x10_1).f0) ((rd_T53 l0 x10_1).f1) ((rd_T53 l0 x10_1).f2) t175 _ A5.out).mono ?_); rintro e w9 ⟨rfl, hb⟩; have n0_ := Aside0.mk (Kd.R_below (by (with_reducible repeat (first | apply Kd.R_alloc | apply Kd.R_drewN | apply Kd.R_drew)); exact (Kd.R_mono (Kd.R_far (p := ⟨gb174, 2, none⟩) (Kd.R_far (p := ⟨gb174, 1, none⟩) (Kd.R_far (p := ⟨gb174, 0, none⟩) (Kd.R_types HO_5.out BK174.out (by decide)) (fun _ hk => hk.2) (.int .i64 ((rd_T53 l0 x10_1).f0))) (fun _ hk => hk.2) (.int .i64 ((rd_T53 l0 x10_1).f1))) (fun _ hk => hk.2) (.int .i64 ((rd_T53 l0 x10_1).f2))) (fun _ h_ => h_.1))) hb); have n1_ := Aside0.mk (blk_below (g := gb174) (o := .cells #[.int .i64 ((rd_T53 l0 x10_1).f0), .int .i64 ((rd_T53 l0 x10_1).f1), .int .i64 ((rd_T53 l0 x10_1).f2)] 53 (0, 0)) (by (with_reducible repeat (first | refine bN ?_ _ | refine bD ?_ | refine bA ?_ _)); refine blk_put (cs := #[.int .i64 ((rd_T53 l0 x10_1).f0), .int .i64 ((rd_T53 l0 x10_1).f1), .int .i64 0]) ?_ 2 _ rfl; (with_reducible repeat (first | refine bN ?_ _ | refine bD ?_ | refine bA ?_ _)); refine blk_put (cs := #[.int .i64 ((rd_T53 l0 x10_1).f0), .int .i64 0, .int .i64 0]) ?_ 1 _ rfl; (with_reducible repeat (first | refine bN ?_ _ | refine bD ?_ | refine bA ?_ _)); refine blk_put (cs := #[.int .i64 0, .int .i64 0, .int .i64 0]) ?_ 0 _ rfl; (with_reducible repeat (first | refine bN ?_ _ | refine bD ?_ | refine bA ?_ _)); exact BK174.out) hb); have n2_ := bs HB hb; clear HO_5; clear BK174; clear HB; have HO_5 := n0_; have BK174 := n1_; have HB := n2_; clear n0_ n1_ n2_; (try clear hb); (try clear hb2); (try clear hk); (try clear hi)) | ((with_reducible refine gate_builtin (b := .append) (xs := #[.tmp 14, .tmp 18]) rfl ?_); at_builtin; refine Kd.R_append (Kd.int .i64) (w0 := w) w.heap.size rfl (.tmp 14) (.tmp 18) 55 3 (.int .i64 0) 8 rfl Try.underlying55 info3 rfl (by decide) (by omega) u5 x5_1 t175 [.int .i64 t175] (fun _ => True) (fun _ => False) rfl rfl ?aP (fun _ hk => hk.elim) ?aF ?aO ?aB ?aS ?aL ?_; (case aP => exact rfl); (case aB => exact (by repeat (first | (with_reducible first | exact HB.out | apply below_alloc | apply pw_below_drewN | apply below_drew1 | refine below_set ?_ GE174.out) | exact HB.out))); (case aF => exact (fun _ _ => trivial)); (case aO => exact (by (with_reducible repeat (first | apply Kd.R_alloc | apply Kd.R_drewN | apply Kd.R_drew)); exact HO_5.out)); (case aS => exact (below_size (by repeat (first | (with_reducible first | exact HB.out | apply below_alloc | apply pw_below_drewN | apply below_drew1 | refine below_set ?_ GE174.out) | exact HB.out)))); (case aL => have := LMc6.out; omega); intro v177 w10 ho hb hg hat; rw [← Ny176.out] at ho; have n0_ := Aside0.mk (blk_grown (g := gb174) (o := .cells #[.int .i64 ((rd_T53 l0 x10_1).f0), .int .i64 ((rd_T53 l0 x10_1).f1), .int .i64 ((rd_T53 l0 x10_1).f2)] 53 (0, 0)) (by (with_reducible repeat (first | refine bN ?_ _ | refine bD ?_ | refine bA ?_ _)); exact BK174.out) hg (Kd.R_ne HO_5.out BK174.out (by decide))); have n1_ := Aside0.mk (hb); have n2_ := Aside0.mk (ho); clear BK174; clear HB; clear HO_5; have BK174 := n0_; have HB := n1_; have HO178 := n2_; clear n0_ n1_ n2_; clear ho hb hg hat))
              go_roundg k1
              case measure => have := HK1.out; omega
              case rel => exact ⟨(y176), (wrap64 (x10_1 + 1)), (by first | rfl | (simp; done) | (simp [*]; done)), H', ⟨by have := HK1.out; omega⟩, ⟨by (with_reducible repeat (first | apply Kd.R_alloc | apply Kd.R_drewN | apply Kd.R_drew)); exact HO178.out⟩, ⟨by repeat (first | (with_reducible first | exact HB.out | apply below_alloc | apply pw_below_drewN | apply below_drew1 | refine below_set ?_ GE174.out) | exact HB.out)⟩⟩
            · rw [if_neg c6] at H
              exact absurd H (by simp)
          · rw [if_neg c4] at H
            exact absurd H (by simp)
        · rw [if_neg c3] at H
          exact absurd H (by simp)
      · rw [if_neg c2] at H
        have c2b0 : decide (x10_1 < (l0.length : Int)) = false := decide_eq_false c2
        clear c2
        obtain rfl := Option.some.inj H
        go_wp2
        go_ret
        exact ⟨_, by first | rfl | (simp [errW_none, errW_some] <;> rfl) | (simp [*, errW_none, errW_some] <;> rfl) | (exfalso; contradiction), by (with_reducible repeat (first | apply Kd.R_alloc | apply Kd.R_drewN | apply Kd.R_drew)); exact HO_5.out, by repeat (first | (with_reducible first | exact HB.out | apply below_alloc | apply pw_below_drewN | apply below_drew1) | exact HB.out)⟩

/-! ### spring_may: function 79 -/
def spring_may.f (a0_0 : Int) (a0_1 : Int) (a0_2 : Int) : Option (Bool) := if a0_1 ≥ 1 then (if a0_1 ≤ a0_0 then (if a0_0 ≤ 1048576 then (if a0_2 ≥ 0 then (some (decide (a0_2 ≤ 8))) else (some false)) else (some false)) else (some false)) else (some false)
set_option maxHeartbeats 8000000 in
set_option maxRecDepth 100000 in
theorem spring_may.calls (a0_0 : Int) (a0_1 : Int) (a0_2 : Int) (r : Bool) (w : World) (h : spring_may.f a0_0 a0_1 a0_2 = some r) :
    Calls Try.prog 79 #[.agg #[.int .i64 a0_0, .int .i64 a0_1, .int .i64 a0_2]] w fun e w' => e = .returned (.bool r) ∧ Below w.heap.size w w' := by
  have hu53 := Try.underlying53
  have HB := Aside0.mk (Below.refl w.heap.size w)
  have H : (if a0_1 ≥ 1 then (if a0_1 ≤ a0_0 then (if a0_0 ≤ 1048576 then (if a0_2 ≥ 0 then (some (decide (a0_2 ≤ 8))) else (some false)) else (some false)) else (some false)) else (some false)) = some r := h
  clear h
  by_cases c2 : a0_1 ≥ 1
  · rw [if_pos c2] at H
    have c2b0 : decide (1 ≤ a0_1) = true := decide_eq_true c2
    clear c2
    by_cases c3 : a0_1 ≤ a0_0
    · rw [if_pos c3] at H
      have c3b0 : decide (a0_1 ≤ a0_0) = true := decide_eq_true c3
      clear c3
      by_cases c4 : a0_0 ≤ 1048576
      · rw [if_pos c4] at H
        have c4b0 : decide (a0_0 ≤ 1048576) = true := decide_eq_true c4
        clear c4
        by_cases c5 : a0_2 ≥ 0
        · rw [if_pos c5] at H
          have c5b0 : decide (0 ≤ a0_2) = true := decide_eq_true c5
          clear c5
          obtain rfl := Option.some.inj H
          go_enter Try.func79, Try.ntmps79
          go_wp2_with (first | ((with_reducible refine gate_dst (N := 1) rfl ?_); refine box_event ?hg (N := 1) ?hd (cs := #[.int .i64 a0_0, .int .i64 a0_1, .int .i64 a0_2]) (t := 53) ?hr ?_; (case hd => rfl); (case hg => rfl); (case hr => first | (go_simp; done) | (go_simp; rfl)); intro gb179 hg w6 hbox hb; have n0_ := bs HB hb; have n1_ := Aside0.mk (hbox); have n2_ := bz HB hg; have n3_ := bz HB hg; clear HB; have HB := n0_; have BK179 := n1_; have GW179 := n2_; have GE179 := n3_; clear n0_ n1_ n2_ n3_; clear hb hbox hg; obtain ⟨hcz7_0, hcz7_1, hcz7_2⟩ := cc3 BK179; obtain ⟨hfz7_0, hfz7_1, hfz7_2⟩ := cf3 BK179))
          go_ret
          exact ⟨by first | rfl | (simp [errW_none, errW_some] <;> rfl) | (simp [*, errW_none, errW_some] <;> rfl) | (exfalso; contradiction), by repeat (first | (with_reducible first | exact HB.out | apply below_alloc | apply pw_below_drewN | apply below_drew1 | refine below_set ?_ GE179.out) | exact HB.out)⟩
        · rw [if_neg c5] at H
          have c5b0 : decide (0 ≤ a0_2) = false := decide_eq_false c5
          clear c5
          obtain rfl := Option.some.inj H
          go_enter Try.func79, Try.ntmps79
          go_wp2_with (first | ((with_reducible refine gate_dst (N := 1) rfl ?_); refine box_event ?hg (N := 1) ?hd (cs := #[.int .i64 a0_0, .int .i64 a0_1, .int .i64 a0_2]) (t := 53) ?hr ?_; (case hd => rfl); (case hg => rfl); (case hr => first | (go_simp; done) | (go_simp; rfl)); intro gb179 hg w8 hbox hb; have n0_ := bs HB hb; have n1_ := Aside0.mk (hbox); have n2_ := bz HB hg; have n3_ := bz HB hg; clear HB; have HB := n0_; have BK179 := n1_; have GW179 := n2_; have GE179 := n3_; clear n0_ n1_ n2_ n3_; clear hb hbox hg; obtain ⟨hcz9_0, hcz9_1, hcz9_2⟩ := cc3 BK179; obtain ⟨hfz9_0, hfz9_1, hfz9_2⟩ := cf3 BK179))
          go_ret
          exact ⟨by first | rfl | (simp [errW_none, errW_some] <;> rfl) | (simp [*, errW_none, errW_some] <;> rfl) | (exfalso; contradiction), by repeat (first | (with_reducible first | exact HB.out | apply below_alloc | apply pw_below_drewN | apply below_drew1 | refine below_set ?_ GE179.out) | exact HB.out)⟩
      · rw [if_neg c4] at H
        have c4b0 : decide (a0_0 ≤ 1048576) = false := decide_eq_false c4
        clear c4
        obtain rfl := Option.some.inj H
        go_enter Try.func79, Try.ntmps79
        go_wp2_with (first | ((with_reducible refine gate_dst (N := 1) rfl ?_); refine box_event ?hg (N := 1) ?hd (cs := #[.int .i64 a0_0, .int .i64 a0_1, .int .i64 a0_2]) (t := 53) ?hr ?_; (case hd => rfl); (case hg => rfl); (case hr => first | (go_simp; done) | (go_simp; rfl)); intro gb179 hg w10 hbox hb; have n0_ := bs HB hb; have n1_ := Aside0.mk (hbox); have n2_ := bz HB hg; have n3_ := bz HB hg; clear HB; have HB := n0_; have BK179 := n1_; have GW179 := n2_; have GE179 := n3_; clear n0_ n1_ n2_ n3_; clear hb hbox hg; obtain ⟨hcz11_0, hcz11_1, hcz11_2⟩ := cc3 BK179; obtain ⟨hfz11_0, hfz11_1, hfz11_2⟩ := cf3 BK179))
        go_ret
        exact ⟨by first | rfl | (simp [errW_none, errW_some] <;> rfl) | (simp [*, errW_none, errW_some] <;> rfl) | (exfalso; contradiction), by repeat (first | (with_reducible first | exact HB.out | apply below_alloc | apply pw_below_drewN | apply below_drew1 | refine below_set ?_ GE179.out) | exact HB.out)⟩
    · rw [if_neg c3] at H
      have c3b0 : decide (a0_1 ≤ a0_0) = false := decide_eq_false c3
      clear c3
      obtain rfl := Option.some.inj H
      go_enter Try.func79, Try.ntmps79
      go_wp2_with (first | ((with_reducible refine gate_dst (N := 1) rfl ?_); refine box_event ?hg (N := 1) ?hd (cs := #[.int .i64 a0_0, .int .i64 a0_1, .int .i64 a0_2]) (t := 53) ?hr ?_; (case hd => rfl); (case hg => rfl); (case hr => first | (go_simp; done) | (go_simp; rfl)); intro gb179 hg w12 hbox hb; have n0_ := bs HB hb; have n1_ := Aside0.mk (hbox); have n2_ := bz HB hg; have n3_ := bz HB hg; clear HB; have HB := n0_; have BK179 := n1_; have GW179 := n2_; have GE179 := n3_; clear n0_ n1_ n2_ n3_; clear hb hbox hg; obtain ⟨hcz13_0, hcz13_1, hcz13_2⟩ := cc3 BK179; obtain ⟨hfz13_0, hfz13_1, hfz13_2⟩ := cf3 BK179))
      go_ret
      exact ⟨by first | rfl | (simp [errW_none, errW_some] <;> rfl) | (simp [*, errW_none, errW_some] <;> rfl) | (exfalso; contradiction), by repeat (first | (with_reducible first | exact HB.out | apply below_alloc | apply pw_below_drewN | apply below_drew1 | refine below_set ?_ GE179.out) | exact HB.out)⟩
  · rw [if_neg c2] at H
    have c2b0 : decide (1 ≤ a0_1) = false := decide_eq_false c2
    clear c2
    obtain rfl := Option.some.inj H
    go_enter Try.func79, Try.ntmps79
    go_wp2_with (first | ((with_reducible refine gate_dst (N := 1) rfl ?_); refine box_event ?hg (N := 1) ?hd (cs := #[.int .i64 a0_0, .int .i64 a0_1, .int .i64 a0_2]) (t := 53) ?hr ?_; (case hd => rfl); (case hg => rfl); (case hr => first | (go_simp; done) | (go_simp; rfl)); intro gb179 hg w14 hbox hb; have n0_ := bs HB hb; have n1_ := Aside0.mk (hbox); have n2_ := bz HB hg; have n3_ := bz HB hg; clear HB; have HB := n0_; have BK179 := n1_; have GW179 := n2_; have GE179 := n3_; clear n0_ n1_ n2_ n3_; clear hb hbox hg; obtain ⟨hcz15_0, hcz15_1, hcz15_2⟩ := cc3 BK179; obtain ⟨hfz15_0, hfz15_1, hfz15_2⟩ := cf3 BK179))
    go_ret
    exact ⟨by first | rfl | (simp [errW_none, errW_some] <;> rfl) | (simp [*, errW_none, errW_some] <;> rfl) | (exfalso; contradiction), by repeat (first | (with_reducible first | exact HB.out | apply below_alloc | apply pw_below_drewN | apply below_drew1 | refine below_set ?_ GE179.out) | exact HB.out)⟩

/-! ### spring_May_1: function 78 -/
def spring_May_1.f (a0_0 : Int) (a0_1 : Int) (a0_2 : Int) : Option (Bool) := (spring_may.f a0_0 a0_1 a0_2).bind fun t181 => (some (!t181))
set_option maxHeartbeats 8000000 in
set_option maxRecDepth 100000 in
theorem spring_May_1.calls (a0_0 : Int) (a0_1 : Int) (a0_2 : Int) (r : Bool) (w : World) (h : spring_May_1.f a0_0 a0_1 a0_2 = some r) :
    Calls Try.prog 78 #[.agg #[.int .i64 a0_0, .int .i64 a0_1, .int .i64 a0_2]] w fun e w' => e = .returned (.bool r) ∧ Below w.heap.size w w' := by
  have hu53 := Try.underlying53
  have HB := Aside0.mk (Below.refl w.heap.size w)
  have H : ((spring_may.f a0_0 a0_1 a0_2).bind fun t181 => (some (!t181))) = some r := h
  clear h
  replace H := Option.bind_eq_some_iff.mp H
  obtain ⟨t181, A20, H⟩ := H
  try dsimp only at H
  have A2 := Aside0.mk A20
  clear A20
  obtain rfl := Option.some.inj H
  go_enter Try.func78, Try.ntmps78
  go_wp2_with (first | ((with_reducible refine gate_dst (N := 1) rfl ?_); refine box_event ?hg (N := 1) ?hd (cs := #[.int .i64 a0_0, .int .i64 a0_1, .int .i64 a0_2]) (t := 53) ?hr ?_; (case hd => rfl); (case hg => rfl); (case hr => first | (go_simp; done) | (go_simp; rfl)); intro gb180 hg w3 hbox hb; have n0_ := bs HB hb; have n1_ := Aside0.mk (hbox); have n2_ := bz HB hg; have n3_ := bz HB hg; clear HB; have HB := n0_; have BK180 := n1_; have GW180 := n2_; have GE180 := n3_; clear n0_ n1_ n2_ n3_; clear hb hbox hg; obtain ⟨hcz4_0, hcz4_1, hcz4_2⟩ := cc3 BK180; obtain ⟨hfz4_0, hfz4_1, hfz4_2⟩ := cf3 BK180) | ((with_reducible refine gate_callee (f := 79) rfl ?_); refine goesL_ (some 4) rfl rfl Try.func79 (by kernel_rfl) rfl #[.agg #[.int .i64 a0_0, .int .i64 a0_1, .int .i64 a0_2]] rfl (by (try simp only [List.map_toArray, List.map_cons, List.map_nil]); first | done | rfl | (simp only [List.length_drop, List.length_take]; rfl)) ?_; (with_reducible refine (spring_may.calls a0_0 a0_1 a0_2 t181 _ A2.out).mono ?_); rintro e w5 ⟨rfl, hb⟩; refine ⟨_, rfl, ?_⟩; have n0_ := bb BK180 hb; have n1_ := bs HB hb; clear BK180; clear HB; have BK180 := n0_; have HB := n1_; clear n0_ n1_; (try clear hb); (try clear hb2); (try clear hk); (try clear hi)))
  go_ret
  exact ⟨by first | rfl | (simp [errW_none, errW_some] <;> rfl) | (simp [*, errW_none, errW_some] <;> rfl) | (exfalso; contradiction), by repeat (first | (with_reducible first | exact HB.out | apply below_alloc | apply pw_below_drewN | apply below_drew1 | refine below_set ?_ GE180.out) | exact HB.out)⟩

end Go.Proofs.Ytaejikbfnlihmaa.P
