-- Written by a program of this session (hprint.py), out of the translation; functions that the print does not take are given by hand.
import Derived.Test.YtaejikbfnlihmaaPx0
import Derived.Test.YtaejikbfnlihmaaPx6
import Derived.Test.YtaejikbfnlihmaaPx7
import Derived.Test.YtaejikbfnlihmaaPx8
import Derived.Test.YtaejikbfnlihmaaPx11
import Derived.Test.YtaejikbfnlihmaaPx16
namespace Go.Proofs.Ytaejikbfnlihmaa.P
open Go.RowKit Go.Proofs.YtaejikbfnlihmaaM Go.Proofs.YtaejikbfnlihmaaW.PrintWords Go.Proofs.YtaejikbfnlihmaaW.PrintLast Go.Proofs.YtaejikbfnlihmaaW.PrintMore
attribute [local go_sem] max2_int min2_int max_two min_two max_three min_three max_four min_four   -- for this text's walks alone
set_option linter.unusedVariables false
set_option linter.unusedSimpArgs false

/-! ### plan_Target: function 13 -/
def plan_Target.each : Nat → List Int → List (S42) → List (S40) → Int → Option (List (S42))
  | 0, _, _, _, _ => none
  | k + 1, u, xs, l0, i => if i < (l0.length : Int) then (if 0 ≤ i then ((plan_Target_1.f k u i (rd_T40 l0 i).f0 (rd_T40 l0 i).f1 (rd_T40 l0 i).f2 (rd_T40 l0 i).f3 (rd_T40 l0 i).f4 (rd_T40 l0 i).f5).bind fun t => if xs.length < 2513169434916 then plan_Target.each k u (xs ++ [(⟨(⟨(rd_T40 l0 i).f0, (rd_T40 l0 i).f1, (rd_T40 l0 i).f2, (rd_T40 l0 i).f3, (rd_T40 l0 i).f4, (rd_T40 l0 i).f5⟩ : S40), t⟩ : S42)]) l0 (wrap64 (i + 1)) else none) else none) else some xs
def plan_Target.f (k : Nat) (l0 : List (S40)) : Option (List (S42) × Int) := if (l0.length : Int) > 4 then some ([], 3) else ((plan_Springs.f k l0).bind fun s => if s.2 = true then ((spring_Press.f k s.1 983040).bind fun u => if u.2 = true then ((plan_Target.each k u.1 [] l0 0).bind fun out => (demand_Test.f k out).bind fun t => if t = true then some (out, 0) else some ([], 6)) else some ([], 5)) else some ([], 1))
theorem plan_Target.mono_l : ∀ k, (∀ y0 y1 y2 y3, LeO (plan_Target.each k y0 y1 y2 y3) (plan_Target.each (k + 1) y0 y1 y2 y3))
  | 0 => fun _ _ _ _ r h => by simp [plan_Target.each] at h
  | k + 1 => by
    have ih0 := plan_Target.mono_l k
    intro y0 y1 y2 y3
    unfold plan_Target.each
    repeat' first
      | (with_reducible exact ih0 _ _ _ _)
      | (with_reducible exact plan_Target_1.mono _ _ _ _ _ _ _ _ _)
      | (with_reducible exact LeO.refl _)
      | (with_reducible exact LeO.none _)
      | (with_reducible refine LeO.ite ?_ ?_)
      | (with_reducible refine LeO.bind ?_ (fun _ => ?_))
      | exact LeO.none _
theorem plan_Target.mono : ∀ a0 k, LeO (plan_Target.f k a0) (plan_Target.f (k + 1) a0) := by
  intro a0 k
  unfold plan_Target.f
  repeat' first
    | (with_reducible exact plan_Target.mono_l _ _ _ _ _)
    | (with_reducible exact plan_Springs.mono _ _)
    | (with_reducible exact spring_Press.mono _ _ _)
    | (with_reducible exact demand_Test.mono _ _)
    | (with_reducible exact LeO.refl _)
    | (with_reducible exact LeO.none _)
    | (with_reducible refine LeO.ite ?_ ?_)
    | (with_reducible refine LeO.bind ?_ (fun _ => ?_))
    | exact LeO.none _
set_option maxHeartbeats 8000000 in
set_option maxRecDepth 100000 in
theorem plan_Target.eachc (k : Nat) (u : List Int) (pu : Nat) (Au : Option Addr) (cu : Nat) (A0 : Option Addr) (c0 : Nat) (l0 : List (S40)) (r : List (S42)) (w : World) (hp : w.cell? ⟨pu, 0, none⟩ = some (.slice Au u.length cu)) (hu : Kd.C (Kd.int .i64) w Au u.length u) (hr0 : Kd.C k40 w A0 l0.length l0) (hc0 : l0.length ≤ c0) (h : plan_Target.each k u [] l0 0 = some r) :
    Calls Try.prog 34 #[.slice A0 l0.length c0, .func (.func 35) #[] #[.pointer (some ⟨pu, 0, none⟩)]] w fun e w' => ∃ v0_ : Value, e = .returned (v0_) ∧ Kd.R k42 42 w' w.heap.size (fun _ => True) v0_ r ∧ Below w.heap.size w w' := by
  have hu40 := Try.underlying40
  have HR0 := Aside0.mk hr0
  have HC0 := Aside0.mk hc0
  have HP0 := Aside0.mk hp
  have HU0 := Aside0.mk hu
  have H' := Aside0.mk h
  clear hr0 hc0 hp hu h
  go_enter Try.func34, Try.ntmps34
  go_wp2
  go_loopg [5, 10] k (fun kq v5 v10 w' => ∃ (xs : List (S42)) (i : Int), v10 = .int .i64 i ∧ Aside0 (plan_Target.each kq u xs l0 i = some r) ∧ Aside0 (kq ≤ k) ∧ Aside0 (Kd.R k42 42 w' w.heap.size (fun _ => True) v5 xs) ∧ Aside0 (Below w.heap.size w w'))
  case atStart => exact ⟨[], 0, rfl, H', ⟨Nat.le_refl _⟩, ⟨Kd.R_nil _ _ _ _ _⟩, ⟨Below.refl _ _⟩⟩
  case round =>
    clear H'
    obtain ⟨xs, i, rfl, HA, HK1, HO, HB⟩ := hrel
    cases gk with
    | zero => exact absurd HA.out (by simp [plan_Target.each])
    | succ k1 =>
      have H := HA.out
      clear HA
      rw [plan_Target.each] at H
      by_cases c2 : i < (l0.length : Int)
      · rw [if_pos c2] at H
        by_cases c3 : 0 ≤ i
        · rw [if_pos c3] at H
          obtain ⟨t, ht, H⟩ := Option.bind_eq_some_iff.mp H
          by_cases c4 : xs.length < 2513169434916
          · rw [if_pos c4] at H
            obtain ⟨ad, e0, h0, h1, h2, h3, h4, h5⟩ := at_T40 HR0.out i c3 c2
            cases e0
            replace h0 := (HB.out.cell (World.block_lt_of_cell? w _ h0)).trans h0
            replace h1 := (HB.out.cell (World.block_lt_of_cell? w _ h1)).trans h1
            replace h2 := (HB.out.cell (World.block_lt_of_cell? w _ h2)).trans h2
            replace h3 := (HB.out.cell (World.block_lt_of_cell? w _ h3)).trans h3
            replace h4 := (HB.out.cell (World.block_lt_of_cell? w _ h4)).trans h4
            replace h5 := (HB.out.cell (World.block_lt_of_cell? w _ h5)).trans h5
            have HP1 := Aside0.mk (plan_Target_1.ca2 (ob := .cells #[.int .i64 (rd_T40 l0 i).f0, .int .i64 (rd_T40 l0 i).f1, .int .i64 (rd_T40 l0 i).f2, .int .i64 (rd_T40 l0 i).f3, .int .i64 (rd_T40 l0 i).f4, .int .i64 (rd_T40 l0 i).f5] 40) ((HB.out.cell (World.block_lt_of_cell? w _ HP0.out)).trans HP0.out))
            have HU1 := Aside0.mk (Kd.C_alloc (Kd.C_below HU0.out HB.out) (.cells #[.int .i64 (rd_T40 l0 i).f0, .int .i64 (rd_T40 l0 i).f1, .int .i64 (rd_T40 l0 i).f2, .int .i64 (rd_T40 l0 i).f3, .int .i64 (rd_T40 l0 i).f4, .int .i64 (rd_T40 l0 i).f5] 40))
            have A1 := Aside0.mk ht
            have LM := Aside0.mk c4
            have c2b : decide (i < (l0.length : Int)) = true := decide_eq_true c2
            have c3b : decide (0 ≤ i) = true := decide_eq_true c3
            have p1 := eq_true c3
            have q1 := eq_true c2
            obtain ⟨ys, hys⟩ : ∃ ys : List (S42), ys = xs ++ [(⟨(⟨(rd_T40 l0 i).f0, (rd_T40 l0 i).f1, (rd_T40 l0 i).f2, (rd_T40 l0 i).f3, (rd_T40 l0 i).f4, (rd_T40 l0 i).f5⟩ : S40), t⟩ : S42)] := ⟨_, rfl⟩
            rw [← hys] at H
            have NY := Aside0.mk hys
            have H' := Aside0.mk H
            clear ht H c2 c3 c4 hys
            go_wp2_with (first | (go_at_call 35; (with_reducible refine (plan_Target_1.calls k1 u pu Au cu i _ _ _ _ _ _ t _ HP1.out HU1.out A1.out).mono ?_); rintro e w3 ⟨rfl, hb⟩; have HO3 := Aside0.mk (Kd.R_below (Kd.R_alloc HO.out _) hb); have HB3 := bs HB hb; clear hb) | ((with_reducible refine gate_builtin (b := .append) (xs := #[.tmp 15, .tmp 20]) rfl ?_); at_builtin; refine Kd.R_append k42 (w0 := w) w.heap.size rfl (.tmp 15) (.tmp 20) 23 42 (.agg #[(.int .i64 0), (.int .i64 0), (.int .i64 0), (.int .i64 0), (.int .i64 0), (.int .i64 0), (.int .i64 0)]) 56 rfl Try.underlying23 info42 rfl (by decide) (by omega) u5 xs (⟨(⟨(rd_T40 l0 i).f0, (rd_T40 l0 i).f1, (rd_T40 l0 i).f2, (rd_T40 l0 i).f3, (rd_T40 l0 i).f4, (rd_T40 l0 i).f5⟩ : S40), t⟩ : S42) [.int .i64 (rd_T40 l0 i).f0, .int .i64 (rd_T40 l0 i).f1, .int .i64 (rd_T40 l0 i).f2, .int .i64 (rd_T40 l0 i).f3, .int .i64 (rd_T40 l0 i).f4, .int .i64 (rd_T40 l0 i).f5, .int .i64 t] (fun _ => True) (fun _ => False) rfl rfl ?aP (fun _ hk => hk.elim) ?aF ?aO ?aB ?aS ?aL ?_; (case aP => exact k42_mkM _ _ _ (⟨(⟨(rd_T40 l0 i).f0, (rd_T40 l0 i).f1, (rd_T40 l0 i).f2, (rd_T40 l0 i).f3, (rd_T40 l0 i).f4, (rd_T40 l0 i).f5⟩ : S40), t⟩ : S42)); (case aB => exact (by repeat (first | (with_reducible first | exact HB3.out | apply below_alloc | apply pw_below_drewN | apply below_drew1) | exact HB3.out))); (case aF => exact (fun _ _ => trivial)); (case aO => exact (by (with_reducible repeat (first | apply Kd.R_alloc | apply Kd.R_drewN | apply Kd.R_drew)); exact HO3.out)); (case aS => exact (below_size (by repeat (first | (with_reducible first | exact HB3.out | apply below_alloc | apply pw_below_drewN | apply below_drew1) | exact HB3.out)))); (case aL => have := LM.out; omega); intro v4 w4 ho hb hg hat; rw [← NY.out] at ho; have HO4 := Aside0.mk ho; have HB4 := Aside0.mk hb; clear ho hb hg hat))
            go_roundg k1
            case measure => have := HK1.out; omega
            case rel => exact ⟨ys, _, rfl, H', ⟨by have := HK1.out; omega⟩, HO4, HB4⟩
          · rw [if_neg c4] at H
            cases H
        · rw [if_neg c3] at H
          cases H
      · rw [if_neg c2] at H
        obtain rfl := Option.some.inj H
        have c2b : decide (i < (l0.length : Int)) = false := decide_eq_false c2
        clear c2 H
        go_wp2
        go_ret
        exact ⟨_, rfl, HO.out, HB.out⟩
theorem plan_Target.boxed (w : World) (v : Value) (t : TypeId) : (w.alloc (.cells #[v] t)).cell? ⟨w.heap.size, 0, none⟩ = some v := (blk_cell (blk_new w (.cells #[v] t)) 0).trans rfl
set_option maxHeartbeats 8000000 in
set_option maxRecDepth 100000 in
theorem plan_Target.calls (k : Nat) (A0 : Option Addr) (c0 : Nat) (l0 : List (S40)) (r1 : List (S42)) (r2 : Int) (w : World) (hr0 : Kd.C k40 w A0 l0.length l0) (hc0 : l0.length ≤ c0) (h : plan_Target.f k l0 = some (r1, r2)) :
    Calls Try.prog 13 #[.slice A0 l0.length c0] w fun e w' => ∃ v0_ : Value, e = .returned (.tuple #[v0_, .int .i64 r2]) ∧ Kd.R k42 42 w' w.heap.size (fun _ => True) v0_ r1 ∧ Below w.heap.size w w' := by
  have hmf : ∀ (fn : Fn) (first cap : Array Value) (w : World), (Instr.makeFunc fn first cap).run Try.prog w = .ok (.func fn first cap) w := fun _ _ _ _ => rfl
  have hu55 := Try.underlying55
  have HR0 := Aside0.mk hr0
  have HC0 := Aside0.mk hc0
  have HB := Aside0.mk (Below.refl w.heap.size w)
  clear hr0 hc0
  unfold plan_Target.f at h
  by_cases c1 : (l0.length : Int) > 4
  · rw [if_pos c1] at h
    simp only [Option.some.injEq, Prod.mk.injEq] at h
    obtain ⟨rfl, rfl⟩ := h
    have c1a : decide (4 < (l0.length : Int)) = true := decide_eq_true c1
    have c1b : decide (4 < l0.length) = true := decide_eq_true (by omega)
    clear c1
    go_enter Try.func13, Try.ntmps13
    go_wp2
    go_ret2
    exact ⟨_, rfl, Kd.R_nil _ _ _ _ _, HB.out⟩
  · rw [if_neg c1] at h
    have c1a : decide (4 < (l0.length : Int)) = false := decide_eq_false c1
    have c1b : decide (4 < l0.length) = false := decide_eq_false (by omega)
    clear c1
    obtain ⟨⟨s, is⟩, hs, h⟩ := Option.bind_eq_some_iff.mp h
    dsimp only at h
    have A1 := Aside0.mk hs
    clear hs
    cases is with
    | false =>
      rw [if_neg (by decide)] at h
      simp only [Option.some.injEq, Prod.mk.injEq] at h
      obtain ⟨rfl, rfl⟩ := h
      go_enter Try.func13, Try.ntmps13
      go_wp2_with (first | (go_at_call 11; (with_reducible refine (plan_Springs.calls k _ _ l0 s false _ HR0.out HC0.out A1.out).mono ?_); rintro e w3 ⟨v3, rfl, ho, hb⟩; have HO3 := Aside0.mk ho; have HB3 := bs HB hb; clear ho hb; obtain ⟨A3, c3, e3⟩ := Kd.R_slice HO3.out; subst e3))
      go_ret2
      exact ⟨_, rfl, Kd.R_nil _ _ _ _ _, HB3.out⟩
    | true =>
      rw [if_pos rfl] at h
      obtain ⟨⟨u, room⟩, hu, h⟩ := Option.bind_eq_some_iff.mp h
      dsimp only at h
      have A2 := Aside0.mk hu
      clear hu
      cases room with
      | false =>
        rw [if_neg (by decide)] at h
        simp only [Option.some.injEq, Prod.mk.injEq] at h
        obtain ⟨rfl, rfl⟩ := h
        go_enter Try.func13, Try.ntmps13
        go_wp2_with (first | (go_at_call 11; (with_reducible refine (plan_Springs.calls k _ _ l0 s true _ HR0.out HC0.out A1.out).mono ?_); rintro e w3 ⟨v3, rfl, ho, hb⟩; have HO3 := Aside0.mk ho; have HB3 := bs HB hb; clear ho hb; obtain ⟨A3, c3, e3⟩ := Kd.R_slice HO3.out; subst e3) | (go_at_call 33; (with_reducible refine (spring_Press.calls k _ _ s 983040 u false _ (Kd.R_reads' HO3.out).2.2 (Kd.R_reads' HO3.out).2.1 A2.out).mono ?_); rintro e w5 ⟨v5, rfl, ho, hb⟩; have HO5 := Aside0.mk (Kd.R_lower ho HB3.out.size); have HB5 := bs HB3 hb; clear ho hb; obtain ⟨A5, c5, e5⟩ := Kd.R_slice HO5.out; subst e5; have P5 := Aside0.mk (plan_Target.boxed w5 (.slice A5 u.length c5) 55); have HU5 := Aside0.mk (Kd.C_alloc (Kd.R_reads' HO5.out).2.2 (.cells #[.slice A5 u.length c5] 55)); have HB6 := Aside0.mk (below_alloc HB5.out (.cells #[.slice A5 u.length c5] 55)); have HR6 := Aside0.mk (Kd.C_alloc (Kd.C_below HR0.out HB5.out) (.cells #[.slice A5 u.length c5] 55))))
        go_ret2
        exact ⟨_, rfl, Kd.R_nil _ _ _ _ _, HB6.out⟩
      | true =>
        rw [if_pos rfl] at h
        obtain ⟨out, ho, h⟩ := Option.bind_eq_some_iff.mp h
        obtain ⟨t, ht, h⟩ := Option.bind_eq_some_iff.mp h
        have A3' := Aside0.mk ho
        have A4 := Aside0.mk ht
        clear ho ht
        cases t with
        | false =>
          rw [if_neg (by decide)] at h
          simp only [Option.some.injEq, Prod.mk.injEq] at h
          obtain ⟨rfl, rfl⟩ := h
          go_enter Try.func13, Try.ntmps13
          go_wp2_with (first | (go_at_call 11; (with_reducible refine (plan_Springs.calls k _ _ l0 s true _ HR0.out HC0.out A1.out).mono ?_); rintro e w3 ⟨v3, rfl, ho, hb⟩; have HO3 := Aside0.mk ho; have HB3 := bs HB hb; clear ho hb; obtain ⟨A3, c3, e3⟩ := Kd.R_slice HO3.out; subst e3) | (go_at_call 33; (with_reducible refine (spring_Press.calls k _ _ s 983040 u true _ (Kd.R_reads' HO3.out).2.2 (Kd.R_reads' HO3.out).2.1 A2.out).mono ?_); rintro e w5 ⟨v5, rfl, ho, hb⟩; have HO5 := Aside0.mk (Kd.R_lower ho HB3.out.size); have HB5 := bs HB3 hb; clear ho hb; obtain ⟨A5, c5, e5⟩ := Kd.R_slice HO5.out; subst e5; have P5 := Aside0.mk (plan_Target.boxed w5 (.slice A5 u.length c5) 55); have HU5 := Aside0.mk (Kd.C_alloc (Kd.R_reads' HO5.out).2.2 (.cells #[.slice A5 u.length c5] 55)); have HB6 := Aside0.mk (below_alloc HB5.out (.cells #[.slice A5 u.length c5] 55)); have HR6 := Aside0.mk (Kd.C_alloc (Kd.C_below HR0.out HB5.out) (.cells #[.slice A5 u.length c5] 55))) | (go_at_call 34; (with_reducible refine (plan_Target.eachc k u w5.heap.size A5 c5 _ _ l0 out _ P5.out HU5.out HR6.out HC0.out A3'.out).mono ?_); rintro e w7 ⟨v7, rfl, ho, hb⟩; have HO7 := Aside0.mk (Kd.R_lower ho HB6.out.size); have HB7 := bs HB6 hb; clear ho hb; obtain ⟨A7, c7, e7⟩ := Kd.R_slice HO7.out; subst e7) | (go_at_call 20; (with_reducible refine (demand_Test.calls k _ _ out false _ (Kd.R_reads' HO7.out).2.2 (Kd.R_reads' HO7.out).2.1 A4.out).mono ?_); rintro e w9 ⟨rfl, hb⟩; have HB9 := bs HB7 hb; have HO9 := Aside0.mk (Kd.R_below HO7.out hb); clear hb))
          go_ret2
          exact ⟨_, rfl, Kd.R_nil _ _ _ _ _, HB9.out⟩
        | true =>
          rw [if_pos rfl] at h
          simp only [Option.some.injEq, Prod.mk.injEq] at h
          obtain ⟨rfl, rfl⟩ := h
          go_enter Try.func13, Try.ntmps13
          go_wp2_with (first | (go_at_call 11; (with_reducible refine (plan_Springs.calls k _ _ l0 s true _ HR0.out HC0.out A1.out).mono ?_); rintro e w3 ⟨v3, rfl, ho, hb⟩; have HO3 := Aside0.mk ho; have HB3 := bs HB hb; clear ho hb; obtain ⟨A3, c3, e3⟩ := Kd.R_slice HO3.out; subst e3) | (go_at_call 33; (with_reducible refine (spring_Press.calls k _ _ s 983040 u true _ (Kd.R_reads' HO3.out).2.2 (Kd.R_reads' HO3.out).2.1 A2.out).mono ?_); rintro e w5 ⟨v5, rfl, ho, hb⟩; have HO5 := Aside0.mk (Kd.R_lower ho HB3.out.size); have HB5 := bs HB3 hb; clear ho hb; obtain ⟨A5, c5, e5⟩ := Kd.R_slice HO5.out; subst e5; have P5 := Aside0.mk (plan_Target.boxed w5 (.slice A5 u.length c5) 55); have HU5 := Aside0.mk (Kd.C_alloc (Kd.R_reads' HO5.out).2.2 (.cells #[.slice A5 u.length c5] 55)); have HB6 := Aside0.mk (below_alloc HB5.out (.cells #[.slice A5 u.length c5] 55)); have HR6 := Aside0.mk (Kd.C_alloc (Kd.C_below HR0.out HB5.out) (.cells #[.slice A5 u.length c5] 55))) | (go_at_call 34; (with_reducible refine (plan_Target.eachc k u w5.heap.size A5 c5 _ _ l0 out _ P5.out HU5.out HR6.out HC0.out A3'.out).mono ?_); rintro e w7 ⟨v7, rfl, ho, hb⟩; have HO7 := Aside0.mk (Kd.R_lower ho HB6.out.size); have HB7 := bs HB6 hb; clear ho hb; obtain ⟨A7, c7, e7⟩ := Kd.R_slice HO7.out; subst e7) | (go_at_call 20; (with_reducible refine (demand_Test.calls k _ _ out true _ (Kd.R_reads' HO7.out).2.2 (Kd.R_reads' HO7.out).2.1 A4.out).mono ?_); rintro e w9 ⟨rfl, hb⟩; have HB9 := bs HB7 hb; have HO9 := Aside0.mk (Kd.R_below HO7.out hb); clear hb))
          go_ret2
          exact ⟨_, rfl, HO9.out, HB9.out⟩

/-! ### plan_Bound: function 17 -/
mutual
def plan_Bound.j0 : Nat → List (S42) → Int → Bool → Option (Int)
  | 0, _, _, _ => none
  | k + 1, x0, x1, x19 => if x19 = true then (some 0) else (plan_Bound.l0 k x1 x0 (x0.length : Int) 0)
def plan_Bound.l0 : Nat → Int → List (S42) → Int → Int → Option (Int)
  | 0, _, _, _, _ => none
  | k + 1, x1, x20, x21, x22 => if x22 < x21 then (if 0 ≤ x22 then (if x22 < (x20.length : Int) then (plan_Bound.l0 k (wrap64 (x1 + (wrap64 (2 * ((rd_T42 x20 x22).f0.f0))))) x20 x21 (wrap64 (x22 + 1))) else (none)) else (none)) else ((frac_Ceil.f (wrap64 (x1 * 1048576)) 65536).bind fun bt213 => (some (wrap64 (bt213.1 + 1))))
end
def plan_Bound.f (k : Nat) (l0 : List (S42)) (a1 : Int) : Option (Int) := (demand_May.f k l0).bind fun t210 => (if t210 = true then (if a1 < 0 then (plan_Bound.j0 k l0 a1 true) else (plan_Bound.j0 k l0 a1 (decide (a1 > 1048576)))) else (plan_Bound.j0 k l0 a1 true))
theorem plan_Bound.mono_l : ∀ k, (∀ y0 y1 y2, LeO (plan_Bound.j0 k y0 y1 y2) (plan_Bound.j0 (k + 1) y0 y1 y2)) ∧ (∀ y0 y1 y2 y3, LeO (plan_Bound.l0 k y0 y1 y2 y3) (plan_Bound.l0 (k + 1) y0 y1 y2 y3))
  | 0 => ⟨fun _ _ _ r h => by simp [plan_Bound.j0] at h, fun _ _ _ _ r h => by simp [plan_Bound.l0] at h⟩
  | k + 1 => by
    obtain ⟨ih0, ih1⟩ := plan_Bound.mono_l k
    refine ⟨?_, ?_⟩
    · intro y0 y1 y2
      unfold plan_Bound.j0
      repeat' first
      | (with_reducible exact ih0 _ _ _)
      | (with_reducible exact ih1 _ _ _ _)
      | (with_reducible exact demand_May.mono _ _)
      | (with_reducible exact LeO.refl _)
      | (with_reducible exact LeO.none _)
      | (with_reducible refine LeO.ite ?_ ?_)
      | (with_reducible refine LeO.bind ?_ (fun _ => ?_))
      | exact ih0 _ _ _
      | exact ih1 _ _ _ _
      | exact demand_May.mono _ _
      | exact LeO.none _
      | refine LeO.ite ?_ ?_
      | refine LeO.bind ?_ (fun _ => ?_)
    · intro y0 y1 y2 y3
      unfold plan_Bound.l0
      repeat' first
      | (with_reducible exact ih0 _ _ _)
      | (with_reducible exact ih1 _ _ _ _)
      | (with_reducible exact demand_May.mono _ _)
      | (with_reducible exact LeO.refl _)
      | (with_reducible exact LeO.none _)
      | (with_reducible refine LeO.ite ?_ ?_)
      | (with_reducible refine LeO.bind ?_ (fun _ => ?_))
      | exact ih0 _ _ _
      | exact ih1 _ _ _ _
      | exact demand_May.mono _ _
      | exact LeO.none _
      | refine LeO.ite ?_ ?_
      | refine LeO.bind ?_ (fun _ => ?_)
theorem plan_Bound.mono : ∀ a0 a1 k, LeO (plan_Bound.f k a0 a1) (plan_Bound.f (k + 1) a0 a1) := by
  intro a0 a1 k
  obtain ⟨ih0, ih1⟩ := plan_Bound.mono_l k
  unfold plan_Bound.f
  repeat' first
      | (with_reducible exact ih0 _ _ _)
      | (with_reducible exact ih1 _ _ _ _)
      | (with_reducible exact demand_May.mono _ _)
      | (with_reducible exact LeO.refl _)
      | (with_reducible exact LeO.none _)
      | (with_reducible refine LeO.ite ?_ ?_)
      | (with_reducible refine LeO.bind ?_ (fun _ => ?_))
      | exact ih0 _ _ _
      | exact ih1 _ _ _ _
      | exact demand_May.mono _ _
      | exact LeO.none _
      | refine LeO.ite ?_ ?_
      | refine LeO.bind ?_ (fun _ => ?_)
set_option maxHeartbeats 8000000 in
set_option maxRecDepth 100000 in
theorem plan_Bound.calls (k : Nat) (A0 : Option Addr) (c0 : Nat) (l0 : List (S42)) (a1 : Int) (r : Int) (w : World) (hr0 : Kd.C k42 w A0 l0.length l0) (hc0 : l0.length ≤ c0) (h : plan_Bound.f k l0 a1 = some r) :
    Calls Try.prog 17 #[.slice A0 l0.length c0, .int .i64 a1] w fun e w' => e = .returned (.int .i64 r) ∧ Below w.heap.size w w' := by
  have hu42 := Try.underlying42
  have HR0 := Aside0.mk hr0
  have HC0 := Aside0.mk hc0
  clear hr0 hc0
  have HB := Aside0.mk (Below.refl w.heap.size w)
  have H : ((demand_May.f k l0).bind fun t210 => (if t210 = true then (if a1 < 0 then (plan_Bound.j0 k l0 a1 true) else (plan_Bound.j0 k l0 a1 (decide (a1 > 1048576)))) else (plan_Bound.j0 k l0 a1 true))) = some r := h
  clear h
  have HC3 := Aside0.mk H
  clear H
  go_enter Try.func17, Try.ntmps17
  go_upto_region 1 with (fail)
  go_cut [19] (fun v19 wc => ∃ (kq : Nat) (x19_2 : Bool), v19 = .bool x19_2 ∧ Aside0 (plan_Bound.j0 kq l0 a1 x19_2 = some r) ∧ Aside0 (kq ≤ k) ∧ Aside0 (Below w.heap.size w wc))
  case first =>
    have H := HC3.out
    clear HC3
    replace H := Option.bind_eq_some_iff.mp H
    obtain ⟨t210, A40, H⟩ := H
    try dsimp only at H
    have A4 := Aside0.mk A40
    clear A40
    by_cases c5 : t210 = true
    · subst c5
      rw [if_pos rfl] at H
      by_cases c6 : a1 < 0
      · rw [if_pos c6] at H
        have c6b0 : decide (a1 < 0) = true := decide_eq_true c6
        clear c6
        (first | rw [c6b0] | (simp only [i64_w, i32_w]; rw [c6b0]) | skip)
        have H' := Aside0.mk H
        clear H
        go_wp2_with (first | ((with_reducible refine gate_callee (f := 19) rfl ?_); refine goesL_ (some 10) rfl rfl Try.func19 (by kernel_rfl) rfl #[.slice A0 l0.length c0] rfl (by (try simp only [List.map_toArray, List.map_cons, List.map_nil]); first | done | rfl | (simp only [List.length_drop, List.length_take]; rfl)) ?_; (with_reducible refine (demand_May.calls k _ _ l0 true _ ?side1 ?side2 A4.out).mono ?_); (case side1 => repeat (first | exact (Kd.C_below HR0.out HB.out) | (with_reducible refine Kd.C_alloc ?_ _) | (with_reducible refine Kd.C_drewN ?_ _) | (with_reducible refine Kd.C_drew ?_))); (case side2 => exact HC0.out); rintro e w7 ⟨rfl, hb⟩; refine ⟨_, rfl, ?_⟩; have n0_ := bs HB hb; clear HB; have HB := n0_; clear n0_; (try clear hb); (try clear hb2); (try clear hk); (try clear hi)))
        go_meet
        case rel => exact ⟨_, (true), (by first | rfl | (simp; done) | (simp [*]; done)), H', ⟨by first | omega | exact Nat.le_refl _⟩, ⟨by repeat (first | (with_reducible first | exact HB.out | apply below_alloc | apply pw_below_drewN | apply below_drew1) | exact HB.out)⟩⟩
      · rw [if_neg c6] at H
        have c6b0 : decide (a1 < 0) = false := decide_eq_false c6
        clear c6
        (first | rw [c6b0] | (simp only [i64_w, i32_w]; rw [c6b0]) | skip)
        have H' := Aside0.mk H
        clear H
        go_wp2_with (first | ((with_reducible refine gate_callee (f := 19) rfl ?_); refine goesL_ (some 10) rfl rfl Try.func19 (by kernel_rfl) rfl #[.slice A0 l0.length c0] rfl (by (try simp only [List.map_toArray, List.map_cons, List.map_nil]); first | done | rfl | (simp only [List.length_drop, List.length_take]; rfl)) ?_; (with_reducible refine (demand_May.calls k _ _ l0 true _ ?side1 ?side2 A4.out).mono ?_); (case side1 => repeat (first | exact (Kd.C_below HR0.out HB.out) | (with_reducible refine Kd.C_alloc ?_ _) | (with_reducible refine Kd.C_drewN ?_ _) | (with_reducible refine Kd.C_drew ?_))); (case side2 => exact HC0.out); rintro e w8 ⟨rfl, hb⟩; refine ⟨_, rfl, ?_⟩; have n0_ := bs HB hb; clear HB; have HB := n0_; clear n0_; (try clear hb); (try clear hb2); (try clear hk); (try clear hi)))
        go_meet
        case rel => exact ⟨_, (decide (a1 > 1048576)), (by first | rfl | (simp; done) | (simp [*]; done)), H', ⟨by first | omega | exact Nat.le_refl _⟩, ⟨by repeat (first | (with_reducible first | exact HB.out | apply below_alloc | apply pw_below_drewN | apply below_drew1) | exact HB.out)⟩⟩
    · replace c5 := Bool.eq_false_iff.mpr c5
      subst c5
      rw [if_neg (show ¬ (false = true) by decide)] at H
      have H' := Aside0.mk H
      clear H
      go_wp2_with (first | ((with_reducible refine gate_callee (f := 19) rfl ?_); refine goesL_ (some 10) rfl rfl Try.func19 (by kernel_rfl) rfl #[.slice A0 l0.length c0] rfl (by (try simp only [List.map_toArray, List.map_cons, List.map_nil]); first | done | rfl | (simp only [List.length_drop, List.length_take]; rfl)) ?_; (with_reducible refine (demand_May.calls k _ _ l0 false _ ?side1 ?side2 A4.out).mono ?_); (case side1 => repeat (first | exact (Kd.C_below HR0.out HB.out) | (with_reducible refine Kd.C_alloc ?_ _) | (with_reducible refine Kd.C_drewN ?_ _) | (with_reducible refine Kd.C_drew ?_))); (case side2 => exact HC0.out); rintro e w9 ⟨rfl, hb⟩; refine ⟨_, rfl, ?_⟩; have n0_ := bs HB hb; clear HB; have HB := n0_; clear n0_; (try clear hb); (try clear hb2); (try clear hk); (try clear hi)))
      go_meet
      case rel => exact ⟨_, (true), (by first | rfl | (simp; done) | (simp [*]; done)), H', ⟨by first | omega | exact Nat.le_refl _⟩, ⟨by repeat (first | (with_reducible first | exact HB.out | apply below_alloc | apply pw_below_drewN | apply below_drew1) | exact HB.out)⟩⟩
  case rest =>
    clear HC3
    try clear c1
    try clear p2
    try clear c5
    try clear c6
    try clear c6b0
    obtain ⟨kq, x19_2, rfl, HA, HJ2, HB⟩ := hcut
    cases kq with
    | zero => exact absurd HA.out (by simp [plan_Bound.j0])
    | succ kj2 =>
      have H := HA.out
      clear HA
      simp only [plan_Bound.j0] at H
      by_cases c10 : x19_2 = true
      · subst c10
        rw [if_pos rfl] at H
        obtain rfl := Option.some.inj H
        go_wp2
        go_ret
        exact ⟨by first | rfl | (simp [errW_none, errW_some] <;> rfl) | (simp [*, errW_none, errW_some] <;> rfl) | (exfalso; contradiction), by repeat (first | (with_reducible first | exact HB.out | apply below_alloc | apply pw_below_drewN | apply below_drew1) | exact HB.out)⟩
      · replace c10 := Bool.eq_false_iff.mpr c10
        subst c10
        rw [if_neg (show ¬ (false = true) by decide)] at H
        have H' := Aside0.mk H
        clear H
        go_wp2
        go_loopg [1, 22] kj2 (fun kq v1 v22 w' => ∃ (x1_2 : Int) (x22_2 : Int), v1 = .int .i64 x1_2 ∧ v22 = .int .i64 x22_2 ∧ Aside0 (plan_Bound.l0 kq x1_2 l0 (l0.length : Int) x22_2 = some r) ∧ Aside0 (kq ≤ kj2) ∧ Aside0 (Below w.heap.size w w'))
        case atStart => exact ⟨(a1), (0), (by first | rfl | (simp; done) | (simp [*]; done)), (by first | rfl | (simp; done) | (simp [*]; done)), H', ⟨Nat.le_refl _⟩, ⟨by repeat (first | (with_reducible first | exact HB.out | apply below_alloc | apply pw_below_drewN | apply below_drew1) | exact HB.out)⟩⟩
        case round =>
          clear H'
          try clear c1
          try clear p2
          try clear c5
          try clear c6
          try clear c6b0
          try clear c10
          try clear p2
          obtain ⟨x1_2, x22_2, rfl, rfl, HA, HK2, HB⟩ := hrel
          cases gk with
          | zero => exact absurd HA.out (by simp [plan_Bound.l0])
          | succ k2 =>
            have H := HA.out
            clear HA
            simp only [plan_Bound.l0] at H
            by_cases c11 : x22_2 < (l0.length : Int)
            · rw [if_pos c11] at H
              have c11b0 : decide (x22_2 < (l0.length : Int)) = true := decide_eq_true c11
              clear c11
              by_cases c12 : 0 ≤ x22_2
              · rw [if_pos c12] at H
                have c12b0 : decide (0 ≤ x22_2) = true := decide_eq_true c12
                clear c12
                by_cases c13 : x22_2 < (l0.length : Int)
                · rw [if_pos c13] at H
                  have c13b0 : decide (x22_2 < (l0.length : Int)) = true := decide_eq_true c13
                  clear c13
                  have H' := Aside0.mk H
                  clear H
                  have p211 : 0 ≤ (x22_2 : Int) := of_decide_eq_true (by first | (with_reducible assumption) | assumption)
                  have q211 : x22_2 < (l0.length : Int) := of_decide_eq_true (by first | (with_reducible assumption) | assumption)
                  obtain ⟨ad211, e211, hx211_0, hx211_1, hx211_2, hx211_3, hx211_4, hx211_5, hx211_6⟩ := at_T42 HR0.out x22_2 p211 q211
                  cases e211
                  replace hx211_0 := (HB.out.cell (World.block_lt_of_cell? w _ hx211_0)).trans hx211_0
                  replace hx211_1 := (HB.out.cell (World.block_lt_of_cell? w _ hx211_1)).trans hx211_1
                  replace hx211_2 := (HB.out.cell (World.block_lt_of_cell? w _ hx211_2)).trans hx211_2
                  replace hx211_3 := (HB.out.cell (World.block_lt_of_cell? w _ hx211_3)).trans hx211_3
                  replace hx211_4 := (HB.out.cell (World.block_lt_of_cell? w _ hx211_4)).trans hx211_4
                  replace hx211_5 := (HB.out.cell (World.block_lt_of_cell? w _ hx211_5)).trans hx211_5
                  replace hx211_6 := (HB.out.cell (World.block_lt_of_cell? w _ hx211_6)).trans hx211_6
                  replace p211 := eq_true p211
                  replace q211 := eq_true q211
                  go_wp2_with (first | ((with_reducible refine gate_dst (N := 6) rfl ?_); refine box_event ?hg (N := 6) ?hd (cs := #[.int .i64 0, .int .i64 0, .int .i64 0, .int .i64 0, .int .i64 0, .int .i64 0, .int .i64 0]) (t := 42) ?hr ?_; (case hd => rfl); (case hg => rfl); (case hr => first | (go_simp; done) | (go_simp; rfl)); intro gb212 hg w14 hbox hb; have n0_ := bs HB hb; have n1_ := Aside0.mk (hbox); have n2_ := bz HB hg; have n3_ := bz HB hg; clear HB; have HB := n0_; have BK212 := n1_; have GW212 := n2_; have GE212 := n3_; clear n0_ n1_ n2_ n3_; clear hb hbox hg; obtain ⟨hcz15_0, hcz15_1, hcz15_2, hcz15_3, hcz15_4, hcz15_5, hcz15_6⟩ := cc7 BK212; obtain ⟨hfz15_0, hfz15_1, hfz15_2, hfz15_3, hfz15_4, hfz15_5, hfz15_6⟩ := cf7 BK212))
                  go_roundg k2
                  case measure => have := HJ2.out; have := HK2.out; omega
                  case rel => exact ⟨(wrap64 (x1_2 + (wrap64 (2 * ((rd_T42 l0 x22_2).f0.f0))))), (wrap64 (x22_2 + 1)), (by first | rfl | (simp; done) | (simp [*]; done)), (by first | rfl | (simp; done) | (simp [*]; done)), H', ⟨by have := HJ2.out; have := HK2.out; omega⟩, ⟨by repeat (first | (with_reducible first | exact HB.out | apply below_alloc | apply pw_below_drewN | apply below_drew1 | refine below_set ?_ GE212.out) | exact HB.out)⟩⟩
                · rw [if_neg c13] at H
                  exact absurd H (by simp)
              · rw [if_neg c12] at H
                exact absurd H (by simp)
            · rw [if_neg c11] at H
              have c11b0 : decide (x22_2 < (l0.length : Int)) = false := decide_eq_false c11
              clear c11
              replace H := Option.bind_eq_some_iff.mp H
              obtain ⟨⟨t213, t214⟩, A160, H⟩ := H
              try dsimp only at H
              have A16 := Aside0.mk A160
              clear A160
              obtain rfl := Option.some.inj H
              go_wp2_with (first | ((with_reducible refine gate_callee (f := 40) rfl ?_); refine goesL_ (some 36) rfl rfl Try.func40 (by kernel_rfl) rfl #[.int .i64 (wrap64 (x1_2 * 1048576)), .int .i64 65536] rfl (by (try simp only [List.map_toArray, List.map_cons, List.map_nil]); first | done | rfl | (simp only [List.length_drop, List.length_take]; rfl)) ?_; (with_reducible refine (frac_Ceil.calls (wrap64 (x1_2 * 1048576)) 65536 t213 t214 _ A16.out).mono ?_); rintro e w17 ⟨rfl, hb⟩; refine ⟨_, rfl, ?_⟩; have n0_ := bs HB hb; clear HB; have HB := n0_; clear n0_; (try clear hb); (try clear hb2); (try clear hk); (try clear hi)))
              go_ret
              exact ⟨by first | rfl | (simp [errW_none, errW_some] <;> rfl) | (simp [*, errW_none, errW_some] <;> rfl) | (exfalso; contradiction), by repeat (first | (with_reducible first | exact HB.out | apply below_alloc | apply pw_below_drewN | apply below_drew1) | exact HB.out)⟩

/-! ### fuseelaw10_Two: function 26 -/
def fuseelaw10_Two.f  : Option (Int × Int × Int × Int × Int × Int × Int × Int × Int × Int × Int × Int) := some (4, 5, 20, 1, 1, 1, 4, 8, 20, 1, 1, 1)
set_option maxHeartbeats 8000000 in
set_option maxRecDepth 100000 in
theorem fuseelaw10_Two.calls  (r1 : Int) (r2 : Int) (r3 : Int) (r4 : Int) (r5 : Int) (r6 : Int) (r7 : Int) (r8 : Int) (r9 : Int) (r10 : Int) (r11 : Int) (r12 : Int) (w : World) (h : fuseelaw10_Two.f  = some (r1, r2, r3, r4, r5, r6, r7, r8, r9, r10, r11, r12)) :
    Calls Try.prog 26 #[] w fun e w' => e = .returned (.tuple #[.agg #[.int .i64 r1, .int .i64 r2, .int .i64 r3, .int .i64 r4, .int .i64 r5, .int .i64 r6], .agg #[.int .i64 r7, .int .i64 r8, .int .i64 r9, .int .i64 r10, .int .i64 r11, .int .i64 r12]]) ∧ Below w.heap.size w w' := by
  have hu40 := Try.underlying40
  have HB := Aside0.mk (Below.refl w.heap.size w)
  have H : (some (4, 5, 20, 1, 1, 1, 4, 8, 20, 1, 1, 1)) = some (r1, r2, r3, r4, r5, r6, r7, r8, r9, r10, r11, r12) := h
  clear h
  simp only [Option.some.injEq, Prod.mk.injEq] at H
  obtain ⟨rfl, rfl, rfl, rfl, rfl, rfl, rfl, rfl, rfl, rfl, rfl, rfl⟩ := H
  go_enter Try.func26, Try.ntmps26
  go_wp2_with (first | ((with_reducible refine gate_dst (N := 0) rfl ?_); refine box_event ?hg (N := 0) ?hd (cs := #[.int .i64 0, .int .i64 0, .int .i64 0, .int .i64 0, .int .i64 0, .int .i64 0]) (t := 40) ?hr ?_; (case hd => rfl); (case hg => rfl); (case hr => first | (go_simp; done) | (go_simp; rfl)); intro gb215 hg w1 hbox hb; have n0_ := bs HB hb; have n1_ := Aside0.mk (hbox); have n2_ := bz HB hg; have n3_ := bz HB hg; clear HB; have HB := n0_; have BK215 := n1_; have GW215 := n2_; have GE215 := n3_; clear n0_ n1_ n2_ n3_; clear hb hbox hg) | ((with_reducible refine gate_dst (N := 1) rfl ?_); refine box_event ?hg (N := 1) ?hd (cs := #[.int .i64 0, .int .i64 0, .int .i64 0, .int .i64 0, .int .i64 0, .int .i64 0]) (t := 40) ?hr ?_; (case hd => rfl); (case hg => rfl); (case hr => first | (go_simp; done) | (go_simp; rfl)); intro gb216 hg w2 hbox hb; have n0_ := bb BK215 hb; have n1_ := bs HB hb; have n2_ := Aside0.mk (hbox); have n3_ := bz HB hg; have n4_ := bz HB hg; have n5_ := bl BK215 hg; have n6_ := bg BK215 hg; clear BK215; clear HB; have BK215 := n0_; have HB := n1_; have BK216 := n2_; have GW216 := n3_; have GE216 := n4_; have NB215_216 := n5_; have NB216_215 := n6_; clear n0_ n1_ n2_ n3_ n4_ n5_ n6_; clear hb hbox hg; have hnb3 := NB215_216.out; have hnc3 := NB216_215.out; obtain ⟨hcz4_0, hcz4_1, hcz4_2, hcz4_3, hcz4_4, hcz4_5⟩ := cc6 BK215; obtain ⟨hfz4_0, hfz4_1, hfz4_2, hfz4_3, hfz4_4, hfz4_5⟩ := cf6 BK215; obtain ⟨hcz5_0, hcz5_1, hcz5_2, hcz5_3, hcz5_4, hcz5_5⟩ := cc6 BK216; obtain ⟨hfz5_0, hfz5_1, hfz5_2, hfz5_3, hfz5_4, hfz5_5⟩ := cf6 BK216))
  refine bodyPost_ret (results_cc rfl _ _ gb215 gb216 40 40 #[.int .i64 4, .int .i64 5, .int .i64 20, .int .i64 1, .int .i64 1, .int .i64 1] #[.int .i64 4, .int .i64 8, .int .i64 20, .int .i64 1, .int .i64 1, .int .i64 1] (0, 0) (0, 0) _ _ rfl (by (with_reducible repeat (first | refine bN ?_ _ | refine bD ?_ | refine bA ?_ _ | refine blk_far ?_ NB215_216.out _)); refine blk_put (cs := #[.int .i64 4, .int .i64 5, .int .i64 20, .int .i64 1, .int .i64 1, .int .i64 0]) ?_ 5 _ rfl; (with_reducible repeat (first | refine bN ?_ _ | refine bD ?_ | refine bA ?_ _)); refine blk_put (cs := #[.int .i64 4, .int .i64 5, .int .i64 20, .int .i64 1, .int .i64 0, .int .i64 0]) ?_ 4 _ rfl; (with_reducible repeat (first | refine bN ?_ _ | refine bD ?_ | refine bA ?_ _)); refine blk_put (cs := #[.int .i64 4, .int .i64 5, .int .i64 20, .int .i64 0, .int .i64 0, .int .i64 0]) ?_ 3 _ rfl; (with_reducible repeat (first | refine bN ?_ _ | refine bD ?_ | refine bA ?_ _)); refine blk_put (cs := #[.int .i64 4, .int .i64 5, .int .i64 0, .int .i64 0, .int .i64 0, .int .i64 0]) ?_ 2 _ rfl; (with_reducible repeat (first | refine bN ?_ _ | refine bD ?_ | refine bA ?_ _)); refine blk_put (cs := #[.int .i64 4, .int .i64 0, .int .i64 0, .int .i64 0, .int .i64 0, .int .i64 0]) ?_ 1 _ rfl; (with_reducible repeat (first | refine bN ?_ _ | refine bD ?_ | refine bA ?_ _)); refine blk_put (cs := #[.int .i64 0, .int .i64 0, .int .i64 0, .int .i64 0, .int .i64 0, .int .i64 0]) ?_ 0 _ rfl; (with_reducible repeat (first | refine bN ?_ _ | refine bD ?_ | refine bA ?_ _)); exact BK215.out) Try.underlying40 rfl (by kernel_rfl) rfl (by (with_reducible repeat (first | refine bN ?_ _ | refine bD ?_ | refine bA ?_ _)); refine blk_put (cs := #[.int .i64 4, .int .i64 8, .int .i64 20, .int .i64 1, .int .i64 1, .int .i64 0]) ?_ 5 _ rfl; (with_reducible repeat (first | refine bN ?_ _ | refine bD ?_ | refine bA ?_ _)); refine blk_put (cs := #[.int .i64 4, .int .i64 8, .int .i64 20, .int .i64 1, .int .i64 0, .int .i64 0]) ?_ 4 _ rfl; (with_reducible repeat (first | refine bN ?_ _ | refine bD ?_ | refine bA ?_ _)); refine blk_put (cs := #[.int .i64 4, .int .i64 8, .int .i64 20, .int .i64 0, .int .i64 0, .int .i64 0]) ?_ 3 _ rfl; (with_reducible repeat (first | refine bN ?_ _ | refine bD ?_ | refine bA ?_ _)); refine blk_put (cs := #[.int .i64 4, .int .i64 8, .int .i64 0, .int .i64 0, .int .i64 0, .int .i64 0]) ?_ 2 _ rfl; (with_reducible repeat (first | refine bN ?_ _ | refine bD ?_ | refine bA ?_ _)); refine blk_put (cs := #[.int .i64 4, .int .i64 0, .int .i64 0, .int .i64 0, .int .i64 0, .int .i64 0]) ?_ 1 _ rfl; (with_reducible repeat (first | refine bN ?_ _ | refine bD ?_ | refine bA ?_ _)); refine blk_put (cs := #[.int .i64 0, .int .i64 0, .int .i64 0, .int .i64 0, .int .i64 0, .int .i64 0]) ?_ 0 _ rfl; (with_reducible repeat (first | refine bN ?_ _ | refine bD ?_ | refine bA ?_ _ | refine blk_far ?_ NB216_215.out _)); exact BK216.out) Try.underlying40 rfl (by kernel_rfl)) rfl ?_
  exact ⟨by first | rfl | (simp [errW_none, errW_some] <;> rfl) | (simp [*, errW_none, errW_some] <;> rfl) | (exfalso; contradiction), by repeat (first | (with_reducible first | exact HB.out | apply below_alloc | apply pw_below_drewN | apply below_drew1 | refine below_set ?_ GE215.out | refine below_set ?_ GE216.out) | exact HB.out)⟩

/-! ### fuseelaw10_awake: function 10 -/
def fuseelaw10_awake.f (k : Nat)  : Option (Bool) := (fuseelaw10_Two.f).bind fun bt217 => ((plan_Target.f k (([(⟨bt217.1, bt217.2.1, bt217.2.2.1, bt217.2.2.2.1, bt217.2.2.2.2.1, bt217.2.2.2.2.2.1⟩ : S40), (⟨bt217.2.2.2.2.2.2.1, bt217.2.2.2.2.2.2.2.1, bt217.2.2.2.2.2.2.2.2.1, bt217.2.2.2.2.2.2.2.2.2.1, bt217.2.2.2.2.2.2.2.2.2.2.1, bt217.2.2.2.2.2.2.2.2.2.2.2⟩ : S40)] : List (S40)))).bind fun bt234 => (if bt234.2 = 0 then (if (bt234.1.length : Int) = 2 then (if 0 < (bt234.1.length : Int) then (if ((rd_T42 bt234.1 0).f1) = 7 then (if 1 < (bt234.1.length : Int) then (if ((rd_T42 bt234.1 1).f1) = 13 then ((plan_Bound.f k bt234.1 3).bind fun t240 => (some (t240 == 305))) else (none)) else (none)) else (none)) else (none)) else (none)) else (none)))
theorem fuseelaw10_awake.mono : ∀ k, LeO (fuseelaw10_awake.f k ) (fuseelaw10_awake.f (k + 1) ) := by
  intro  k
  unfold fuseelaw10_awake.f
  repeat' first
      | (with_reducible exact plan_Bound.mono _ _ _)
      | (with_reducible exact plan_Target.mono _ _)
      | (with_reducible exact LeO.refl _)
      | (with_reducible exact LeO.none _)
      | (with_reducible refine LeO.ite ?_ ?_)
      | (with_reducible refine LeO.bind ?_ (fun _ => ?_))
      | exact plan_Bound.mono _ _ _
      | exact plan_Target.mono _ _
      | exact LeO.none _
      | refine LeO.ite ?_ ?_
      | refine LeO.bind ?_ (fun _ => ?_)
set_option maxHeartbeats 8000000 in
set_option maxRecDepth 100000 in
theorem fuseelaw10_awake.calls (k : Nat)  (r : Bool) (w : World) (h : fuseelaw10_awake.f k  = some r) :
    Calls Try.prog 10 #[] w fun e w' => e = .returned (.bool r) ∧ Below w.heap.size w w' := by
  have hu40 := Try.underlying40
  have HB := Aside0.mk (Below.refl w.heap.size w)
  have H : ((fuseelaw10_Two.f).bind fun bt217 => ((plan_Target.f k (([(⟨bt217.1, bt217.2.1, bt217.2.2.1, bt217.2.2.2.1, bt217.2.2.2.2.1, bt217.2.2.2.2.2.1⟩ : S40), (⟨bt217.2.2.2.2.2.2.1, bt217.2.2.2.2.2.2.2.1, bt217.2.2.2.2.2.2.2.2.1, bt217.2.2.2.2.2.2.2.2.2.1, bt217.2.2.2.2.2.2.2.2.2.2.1, bt217.2.2.2.2.2.2.2.2.2.2.2⟩ : S40)] : List (S40)))).bind fun bt234 => (if bt234.2 = 0 then (if (bt234.1.length : Int) = 2 then (if 0 < (bt234.1.length : Int) then (if ((rd_T42 bt234.1 0).f1) = 7 then (if 1 < (bt234.1.length : Int) then (if ((rd_T42 bt234.1 1).f1) = 13 then ((plan_Bound.f k bt234.1 3).bind fun t240 => (some (t240 == 305))) else (none)) else (none)) else (none)) else (none)) else (none)) else (none)))) = some r := h
  clear h
  replace H := Option.bind_eq_some_iff.mp H
  obtain ⟨⟨t217, t218, t219, t220, t221, t222, t223, t224, t225, t226, t227, t228⟩, A10, H⟩ := H
  try dsimp only at H
  have A1 := Aside0.mk A10
  clear A10
  obtain ⟨y231, hy231⟩ : ∃ y_ : List (S40), y_ = (([(⟨t217, t218, t219, t220, t221, t222⟩ : S40), (⟨t223, t224, t225, t226, t227, t228⟩ : S40)] : List (S40))) := ⟨_, rfl⟩
  replace H : ((plan_Target.f k y231).bind fun bt234 => (if bt234.2 = 0 then (if (bt234.1.length : Int) = 2 then (if 0 < (bt234.1.length : Int) then (if ((rd_T42 bt234.1 0).f1) = 7 then (if 1 < (bt234.1.length : Int) then (if ((rd_T42 bt234.1 1).f1) = 13 then ((plan_Bound.f k bt234.1 3).bind fun t240 => (some (t240 == 305))) else (none)) else (none)) else (none)) else (none)) else (none)) else (none))) = some r := by first | (rw [hy231]; with_reducible exact H) | (have H2_ := (Option.bind_some _ _).symm.trans H; rw [hy231]; with_reducible exact H2_) | (have H2_ := (Option.bind_some _ _).symm.trans H; with_reducible exact H2_) | with_reducible exact H | (rw [hy231]; exact H) | exact H
  have Ny231 := Aside0.mk hy231
  clear hy231
  replace H := Option.bind_eq_some_iff.mp H
  obtain ⟨⟨t234, t235⟩, A20, H⟩ := H
  try dsimp only at H
  have A2 := Aside0.mk A20
  clear A20
  by_cases c3 : t235 = 0
  · rw [if_pos c3] at H
    have c3b0 : (t235 == 0) = true := beq_iff_eq.mpr c3
    have c3b1 : (t235 != 0) = false := bne_eq_false_iff_eq.mpr c3
    clear c3
    by_cases c4 : (t234.length : Int) = 2
    · rw [if_pos c4] at H
      have c4b0 : ((t234.length : Int) == 2) = true := beq_iff_eq.mpr c4
      have c4b1 : ((t234.length : Int) != 2) = false := bne_eq_false_iff_eq.mpr c4
      clear c4
      by_cases c5 : 0 < (t234.length : Int)
      · rw [if_pos c5] at H
        have c5b0 : decide (0 < (t234.length : Int)) = true := decide_eq_true c5
        have c5b1 : decide (0 < t234.length) = true := decide_eq_true (by omega)
        clear c5
        by_cases c6 : ((rd_T42 t234 0).f1) = 7
        · rw [if_pos c6] at H
          have c6b0 : (((rd_T42 t234 0).f1) == 7) = true := beq_iff_eq.mpr c6
          have c6b1 : (((rd_T42 t234 0).f1) != 7) = false := bne_eq_false_iff_eq.mpr c6
          clear c6
          by_cases c7 : 1 < (t234.length : Int)
          · rw [if_pos c7] at H
            have c7b0 : decide (1 < (t234.length : Int)) = true := decide_eq_true c7
            have c7b1 : decide (1 < t234.length) = true := decide_eq_true (by omega)
            clear c7
            by_cases c8 : ((rd_T42 t234 1).f1) = 13
            · rw [if_pos c8] at H
              have c8b0 : (((rd_T42 t234 1).f1) == 13) = true := beq_iff_eq.mpr c8
              have c8b1 : (((rd_T42 t234 1).f1) != 13) = false := bne_eq_false_iff_eq.mpr c8
              clear c8
              replace H := Option.bind_eq_some_iff.mp H
              obtain ⟨t240, A90, H⟩ := H
              try dsimp only at H
              have A9 := Aside0.mk A90
              clear A90
              obtain rfl := Option.some.inj H
              go_enter Try.func10, Try.ntmps10
              go_wp2_with (first | ((with_reducible refine gate_callee (f := 26) rfl ?_); refine goesL_ (some 6) rfl rfl Try.func26 (by kernel_rfl) rfl #[] rfl (by (try simp only [List.map_toArray, List.map_cons, List.map_nil]); first | done | rfl | (simp only [List.length_drop, List.length_take]; rfl)) ?_; (with_reducible refine (fuseelaw10_Two.calls  t217 t218 t219 t220 t221 t222 t223 t224 t225 t226 t227 t228 _ A1.out).mono ?_); rintro e w10 ⟨rfl, hb⟩; refine ⟨_, rfl, ?_⟩; have n0_ := bs HB hb; clear HB; have HB := n0_; clear n0_; (try clear hb); (try clear hb2); (try clear hk); (try clear hi)) | ((with_reducible refine gate_dst (N := 1) rfl ?_); (try (refine gate_guard (by rfl) ?_; dsimp only)); refine box_event ?hg (N := 1) ?hd (cs := #[.int .i64 0, .int .i64 0, .int .i64 0, .int .i64 0, .int .i64 0, .int .i64 0]) (t := 40) ?hr ?_; (case hd => rfl); (case hg => rfl); (case hr => first | (go_simp; done) | (go_simp; rfl)); intro gb229 hg w11 hbox hb; have n0_ := bs HB hb; have n1_ := Aside0.mk (hbox); have n2_ := bz HB hg; have n3_ := bz HB hg; clear HB; have HB := n0_; have BK229 := n1_; have GW229 := n2_; have GE229 := n3_; clear n0_ n1_ n2_ n3_; clear hb hbox hg) | ((with_reducible refine gate_dst (N := 2) rfl ?_); (try (refine gate_guard (by rfl) ?_; dsimp only)); refine box_event ?hg (N := 2) ?hd (cs := #[.int .i64 0, .int .i64 0, .int .i64 0, .int .i64 0, .int .i64 0, .int .i64 0]) (t := 40) ?hr ?_; (case hd => rfl); (case hg => rfl); (case hr => first | (go_simp; done) | (go_simp; rfl)); intro gb230 hg w12 hbox hb; have n0_ := bb BK229 hb; have n1_ := bs HB hb; have n2_ := Aside0.mk (hbox); have n3_ := bz HB hg; have n4_ := bz HB hg; have n5_ := bl BK229 hg; have n6_ := bg BK229 hg; clear BK229; clear HB; have BK229 := n0_; have HB := n1_; have BK230 := n2_; have GW230 := n3_; have GE230 := n4_; have NB229_230 := n5_; have NB230_229 := n6_; clear n0_ n1_ n2_ n3_ n4_ n5_ n6_; clear hb hbox hg; have hnb13 := NB229_230.out; have hnc13 := NB230_229.out; obtain ⟨hcz14_0, hcz14_1, hcz14_2, hcz14_3, hcz14_4, hcz14_5⟩ := cc6 BK229; obtain ⟨hfz14_0, hfz14_1, hfz14_2, hfz14_3, hfz14_4, hfz14_5⟩ := cf6 BK229; obtain ⟨hcz15_0, hcz15_1, hcz15_2, hcz15_3, hcz15_4, hcz15_5⟩ := cc6 BK230; obtain ⟨hfz15_0, hfz15_1, hfz15_2, hfz15_3, hfz15_4, hfz15_5⟩ := cf6 BK230) | ((with_reducible refine gate_dst (N := 12) rfl ?_); (try (refine gate_guard (by rfl) ?_; dsimp only)); refine Kd.R_lit k40 _ 40 ?hg (N := 12) ?hd (xs := ([(⟨t217, t218, t219, t220, t221, t222⟩ : S40), (⟨t223, t224, t225, t226, t227, t228⟩ : S40)] : List (S40))) (inner := [.int .i64 t217, .int .i64 t218, .int .i64 t219, .int .i64 t220, .int .i64 t221, .int .i64 t222, .int .i64 t223, .int .i64 t224, .int .i64 t225, .int .i64 t226, .int .i64 t227, .int .i64 t228]) (ok := fun _ => True) (okp := fun _ => True) ?hr ?hp (fun _ hk => hk) trivial (Below.refl _ _) (Nat.le_refl _) (by simp) ?_; (case hd => rfl); (case hg => rfl); (case hr => first | (go_simp; done) | (go_simp; rfl)); (case hp => exact (Reps.c6 (show Kd.M k40 _ _ _ (⟨t217, t218, t219, t220, t221, t222⟩ : S40) [.int .i64 t217, .int .i64 t218, .int .i64 t219, .int .i64 t220, .int .i64 t221, .int .i64 t222] from (k40_mkM _ _ _ (⟨t217, t218, t219, t220, t221, t222⟩ : S40) )) (Reps.c6 (show Kd.M k40 _ _ _ (⟨t223, t224, t225, t226, t227, t228⟩ : S40) [.int .i64 t223, .int .i64 t224, .int .i64 t225, .int .i64 t226, .int .i64 t227, .int .i64 t228] from (k40_mkM _ _ _ (⟨t223, t224, t225, t226, t227, t228⟩ : S40) )) (Reps.none _ _)))); intro v232 w16 ho17 hb hg_ hnew_; clear hg_ hnew_; (first | rw [← Ny231.out] at ho17 | (simp only [Int.reduceToNat] at ho17; rw [← Ny231.out] at ho17)); have n0_ := Aside0.mk (Kd.R_lower (Kd.R_newB (Kd.R_newB ho17 (g := gb229) (o := .cells #[.int .i64 t217, .int .i64 t218, .int .i64 t219, .int .i64 t220, .int .i64 t221, .int .i64 t222] 40 (0, 0)) (by (with_reducible repeat (first | refine bN ?_ _ | refine bD ?_ | refine bA ?_ _ | refine blk_far ?_ NB229_230.out _)); refine blk_put (cs := #[.int .i64 t217, .int .i64 t218, .int .i64 t219, .int .i64 t220, .int .i64 t221, .int .i64 0]) ?_ 5 _ rfl; (with_reducible repeat (first | refine bN ?_ _ | refine bD ?_ | refine bA ?_ _)); refine blk_put (cs := #[.int .i64 t217, .int .i64 t218, .int .i64 t219, .int .i64 t220, .int .i64 0, .int .i64 0]) ?_ 4 _ rfl; (with_reducible repeat (first | refine bN ?_ _ | refine bD ?_ | refine bA ?_ _)); refine blk_put (cs := #[.int .i64 t217, .int .i64 t218, .int .i64 t219, .int .i64 0, .int .i64 0, .int .i64 0]) ?_ 3 _ rfl; (with_reducible repeat (first | refine bN ?_ _ | refine bD ?_ | refine bA ?_ _)); refine blk_put (cs := #[.int .i64 t217, .int .i64 t218, .int .i64 0, .int .i64 0, .int .i64 0, .int .i64 0]) ?_ 2 _ rfl; (with_reducible repeat (first | refine bN ?_ _ | refine bD ?_ | refine bA ?_ _)); refine blk_put (cs := #[.int .i64 t217, .int .i64 0, .int .i64 0, .int .i64 0, .int .i64 0, .int .i64 0]) ?_ 1 _ rfl; (with_reducible repeat (first | refine bN ?_ _ | refine bD ?_ | refine bA ?_ _)); refine blk_put (cs := #[.int .i64 0, .int .i64 0, .int .i64 0, .int .i64 0, .int .i64 0, .int .i64 0]) ?_ 0 _ rfl; (with_reducible repeat (first | refine bN ?_ _ | refine bD ?_ | refine bA ?_ _)); exact BK229.out)) (g := gb230) (o := .cells #[.int .i64 t223, .int .i64 t224, .int .i64 t225, .int .i64 t226, .int .i64 t227, .int .i64 t228] 40 (0, 0)) (by (with_reducible repeat (first | refine bN ?_ _ | refine bD ?_ | refine bA ?_ _)); refine blk_put (cs := #[.int .i64 t223, .int .i64 t224, .int .i64 t225, .int .i64 t226, .int .i64 t227, .int .i64 0]) ?_ 5 _ rfl; (with_reducible repeat (first | refine bN ?_ _ | refine bD ?_ | refine bA ?_ _)); refine blk_put (cs := #[.int .i64 t223, .int .i64 t224, .int .i64 t225, .int .i64 t226, .int .i64 0, .int .i64 0]) ?_ 4 _ rfl; (with_reducible repeat (first | refine bN ?_ _ | refine bD ?_ | refine bA ?_ _)); refine blk_put (cs := #[.int .i64 t223, .int .i64 t224, .int .i64 t225, .int .i64 0, .int .i64 0, .int .i64 0]) ?_ 3 _ rfl; (with_reducible repeat (first | refine bN ?_ _ | refine bD ?_ | refine bA ?_ _)); refine blk_put (cs := #[.int .i64 t223, .int .i64 t224, .int .i64 0, .int .i64 0, .int .i64 0, .int .i64 0]) ?_ 2 _ rfl; (with_reducible repeat (first | refine bN ?_ _ | refine bD ?_ | refine bA ?_ _)); refine blk_put (cs := #[.int .i64 t223, .int .i64 0, .int .i64 0, .int .i64 0, .int .i64 0, .int .i64 0]) ?_ 1 _ rfl; (with_reducible repeat (first | refine bN ?_ _ | refine bD ?_ | refine bA ?_ _)); refine blk_put (cs := #[.int .i64 0, .int .i64 0, .int .i64 0, .int .i64 0, .int .i64 0, .int .i64 0]) ?_ 0 _ rfl; (with_reducible repeat (first | refine bN ?_ _ | refine bD ?_ | refine bA ?_ _ | refine blk_far ?_ NB230_229.out _)); exact BK230.out)) (below_size (by repeat (first | (with_reducible first | exact HB.out | apply below_alloc | apply pw_below_drewN | apply below_drew1 | refine below_set ?_ GE229.out | refine below_set ?_ GE230.out) | exact HB.out)))); have n1_ := Aside0.mk (blk_below (g := gb229) (o := .cells #[.int .i64 t217, .int .i64 t218, .int .i64 t219, .int .i64 t220, .int .i64 t221, .int .i64 t222] 40 (0, 0)) (by (with_reducible repeat (first | refine bN ?_ _ | refine bD ?_ | refine bA ?_ _ | refine blk_far ?_ NB229_230.out _)); refine blk_put (cs := #[.int .i64 t217, .int .i64 t218, .int .i64 t219, .int .i64 t220, .int .i64 t221, .int .i64 0]) ?_ 5 _ rfl; (with_reducible repeat (first | refine bN ?_ _ | refine bD ?_ | refine bA ?_ _)); refine blk_put (cs := #[.int .i64 t217, .int .i64 t218, .int .i64 t219, .int .i64 t220, .int .i64 0, .int .i64 0]) ?_ 4 _ rfl; (with_reducible repeat (first | refine bN ?_ _ | refine bD ?_ | refine bA ?_ _)); refine blk_put (cs := #[.int .i64 t217, .int .i64 t218, .int .i64 t219, .int .i64 0, .int .i64 0, .int .i64 0]) ?_ 3 _ rfl; (with_reducible repeat (first | refine bN ?_ _ | refine bD ?_ | refine bA ?_ _)); refine blk_put (cs := #[.int .i64 t217, .int .i64 t218, .int .i64 0, .int .i64 0, .int .i64 0, .int .i64 0]) ?_ 2 _ rfl; (with_reducible repeat (first | refine bN ?_ _ | refine bD ?_ | refine bA ?_ _)); refine blk_put (cs := #[.int .i64 t217, .int .i64 0, .int .i64 0, .int .i64 0, .int .i64 0, .int .i64 0]) ?_ 1 _ rfl; (with_reducible repeat (first | refine bN ?_ _ | refine bD ?_ | refine bA ?_ _)); refine blk_put (cs := #[.int .i64 0, .int .i64 0, .int .i64 0, .int .i64 0, .int .i64 0, .int .i64 0]) ?_ 0 _ rfl; (with_reducible repeat (first | refine bN ?_ _ | refine bD ?_ | refine bA ?_ _)); exact BK229.out) hb); have n2_ := Aside0.mk (blk_below (g := gb230) (o := .cells #[.int .i64 t223, .int .i64 t224, .int .i64 t225, .int .i64 t226, .int .i64 t227, .int .i64 t228] 40 (0, 0)) (by (with_reducible repeat (first | refine bN ?_ _ | refine bD ?_ | refine bA ?_ _)); refine blk_put (cs := #[.int .i64 t223, .int .i64 t224, .int .i64 t225, .int .i64 t226, .int .i64 t227, .int .i64 0]) ?_ 5 _ rfl; (with_reducible repeat (first | refine bN ?_ _ | refine bD ?_ | refine bA ?_ _)); refine blk_put (cs := #[.int .i64 t223, .int .i64 t224, .int .i64 t225, .int .i64 t226, .int .i64 0, .int .i64 0]) ?_ 4 _ rfl; (with_reducible repeat (first | refine bN ?_ _ | refine bD ?_ | refine bA ?_ _)); refine blk_put (cs := #[.int .i64 t223, .int .i64 t224, .int .i64 t225, .int .i64 0, .int .i64 0, .int .i64 0]) ?_ 3 _ rfl; (with_reducible repeat (first | refine bN ?_ _ | refine bD ?_ | refine bA ?_ _)); refine blk_put (cs := #[.int .i64 t223, .int .i64 t224, .int .i64 0, .int .i64 0, .int .i64 0, .int .i64 0]) ?_ 2 _ rfl; (with_reducible repeat (first | refine bN ?_ _ | refine bD ?_ | refine bA ?_ _)); refine blk_put (cs := #[.int .i64 t223, .int .i64 0, .int .i64 0, .int .i64 0, .int .i64 0, .int .i64 0]) ?_ 1 _ rfl; (with_reducible repeat (first | refine bN ?_ _ | refine bD ?_ | refine bA ?_ _)); refine blk_put (cs := #[.int .i64 0, .int .i64 0, .int .i64 0, .int .i64 0, .int .i64 0, .int .i64 0]) ?_ 0 _ rfl; (with_reducible repeat (first | refine bN ?_ _ | refine bD ?_ | refine bA ?_ _ | refine blk_far ?_ NB230_229.out _)); exact BK230.out) hb); have n3_ := bs HB hb; clear BK229; clear BK230; clear HB; have HO233 := n0_; have BK229 := n1_; have BK230 := n2_; have HB := n3_; clear n0_ n1_ n2_ n3_; clear hb ho17; obtain ⟨Ao18, co18, eo18⟩ := Kd.R_slice HO233.out; subst eo18) | ((with_reducible refine gate_callee (f := 13) rfl ?_); refine goesL_ (some 13) rfl rfl Try.func13 (by kernel_rfl) rfl #[.slice Ao18 y231.length co18] rfl (by (try simp only [List.map_toArray, List.map_cons, List.map_nil]); first | done | rfl | (simp only [List.length_drop, List.length_take]; rfl)) ?_; (with_reducible refine (plan_Target.calls k _ _ y231 t234 t235 _ ?side1 ?side2 A2.out).mono ?_); (case side1 => repeat (first | exact (Kd.R_reads' HO233.out).2.2 | (with_reducible refine Kd.C_alloc ?_ _) | (with_reducible refine Kd.C_drewN ?_ _) | (with_reducible refine Kd.C_drew ?_))); (case side2 => exact (Kd.R_reads' HO233.out).2.1); rintro e w19 ⟨v236, rfl, ho0, hb⟩; refine ⟨_, rfl, ?_⟩; have n0_ := Aside0.mk (Kd.R_below (by (with_reducible repeat (first | apply Kd.R_alloc | apply Kd.R_drewN | apply Kd.R_drew)); exact HO233.out) hb); have n1_ := Aside0.mk (Kd.R_lower ho0 (below_size (by repeat (first | (with_reducible first | exact HB.out | apply below_alloc | apply pw_below_drewN | apply below_drew1 | refine below_set ?_ GE229.out | refine below_set ?_ GE230.out) | exact HB.out)))); have n2_ := bb BK229 hb; have n3_ := bb BK230 hb; have n4_ := bs HB hb; clear HO233; clear BK229; clear BK230; clear HB; have HO233 := n0_; have HO237 := n1_; have BK229 := n2_; have BK230 := n3_; have HB := n4_; clear n0_ n1_ n2_ n3_ n4_; (try clear hb); (try clear hb2); (try clear hk); (try clear hi); (try clear ho0); obtain ⟨Ao20, co20, eo20⟩ := Kd.R_slice HO237.out; subst eo20; have p238 : 0 ≤ (0 : Int) := (by omega); have q238 : 0 < (t234.length : Int) := of_decide_eq_true (by first | (with_reducible assumption) | assumption); obtain ⟨ad238, e238, hx238_0, hx238_1, hx238_2, hx238_3, hx238_4, hx238_5, hx238_6⟩ := at_T42 (Kd.R_reads' HO237.out).2.2 0 p238 q238; cases e238; have qi238 : (0 < t234.length) = True := eq_true (by omega); (try rw [show ((0 : Int)).toNat = 0 from rfl] at hx238_0); (try rw [show 0 * 7 = 0 from rfl] at hx238_0); (try rw [Addr.add_zero'] at hx238_0); (try rw [show ((0 : Int)).toNat = 0 from rfl] at hx238_1); (try rw [show 0 * 7 = 0 from rfl] at hx238_1); (try rw [Addr.add_zero'] at hx238_1); (try rw [show ((0 : Int)).toNat = 0 from rfl] at hx238_2); (try rw [show 0 * 7 = 0 from rfl] at hx238_2); (try rw [Addr.add_zero'] at hx238_2); (try rw [show ((0 : Int)).toNat = 0 from rfl] at hx238_3); (try rw [show 0 * 7 = 0 from rfl] at hx238_3); (try rw [Addr.add_zero'] at hx238_3); (try rw [show ((0 : Int)).toNat = 0 from rfl] at hx238_4); (try rw [show 0 * 7 = 0 from rfl] at hx238_4); (try rw [Addr.add_zero'] at hx238_4); (try rw [show ((0 : Int)).toNat = 0 from rfl] at hx238_5); (try rw [show 0 * 7 = 0 from rfl] at hx238_5); (try rw [Addr.add_zero'] at hx238_5); (try rw [show ((0 : Int)).toNat = 0 from rfl] at hx238_6); (try rw [show 0 * 7 = 0 from rfl] at hx238_6); (try rw [Addr.add_zero'] at hx238_6); replace p238 := eq_true p238; replace q238 := eq_true q238; have p239 : 0 ≤ (1 : Int) := (by omega); have q239 : 1 < (t234.length : Int) := of_decide_eq_true (by first | (with_reducible assumption) | assumption); obtain ⟨ad239, e239, hx239_0, hx239_1, hx239_2, hx239_3, hx239_4, hx239_5, hx239_6⟩ := at_T42 (Kd.R_reads' HO237.out).2.2 1 p239 q239; obtain rfl : ad238 = ad239 := (by injection e239); (try simp only [show (1 : Int).toNat = 1 from rfl, Nat.reduceMul, Nat.reduceEqDiff, Go.Addr.add, ↓reduceIte] at hx239_0); (try simp only [show (1 : Int).toNat = 1 from rfl, Nat.reduceMul, Nat.reduceEqDiff, Go.Addr.add, ↓reduceIte] at hx239_1); (try simp only [show (1 : Int).toNat = 1 from rfl, Nat.reduceMul, Nat.reduceEqDiff, Go.Addr.add, ↓reduceIte] at hx239_2); (try simp only [show (1 : Int).toNat = 1 from rfl, Nat.reduceMul, Nat.reduceEqDiff, Go.Addr.add, ↓reduceIte] at hx239_3); (try simp only [show (1 : Int).toNat = 1 from rfl, Nat.reduceMul, Nat.reduceEqDiff, Go.Addr.add, ↓reduceIte] at hx239_4); (try simp only [show (1 : Int).toNat = 1 from rfl, Nat.reduceMul, Nat.reduceEqDiff, Go.Addr.add, ↓reduceIte] at hx239_5); (try simp only [show (1 : Int).toNat = 1 from rfl, Nat.reduceMul, Nat.reduceEqDiff, Go.Addr.add, ↓reduceIte] at hx239_6); have qi239 : (1 < t234.length) = True := eq_true (by omega); (try rw [show ((1 : Int)).toNat = 1 from rfl] at hx239_0); (try rw [show 1 * 7 = 7 from rfl] at hx239_0); (try rw [show ((1 : Int)).toNat = 1 from rfl] at hx239_1); (try rw [show 1 * 7 = 7 from rfl] at hx239_1); (try rw [show ((1 : Int)).toNat = 1 from rfl] at hx239_2); (try rw [show 1 * 7 = 7 from rfl] at hx239_2); (try rw [show ((1 : Int)).toNat = 1 from rfl] at hx239_3); (try rw [show 1 * 7 = 7 from rfl] at hx239_3); (try rw [show ((1 : Int)).toNat = 1 from rfl] at hx239_4); (try rw [show 1 * 7 = 7 from rfl] at hx239_4); (try rw [show ((1 : Int)).toNat = 1 from rfl] at hx239_5); (try rw [show 1 * 7 = 7 from rfl] at hx239_5); (try rw [show ((1 : Int)).toNat = 1 from rfl] at hx239_6); (try rw [show 1 * 7 = 7 from rfl] at hx239_6); replace p239 := eq_true p239; replace q239 := eq_true q239) | (go_at_call 17; (with_reducible refine (plan_Bound.calls k _ _ t234 3 t240 _ ?side1 ?side2 A9.out).mono ?_); (case side1 => repeat (first | exact (Kd.R_reads' HO237.out).2.2 | (with_reducible refine Kd.C_alloc ?_ _) | (with_reducible refine Kd.C_drewN ?_ _) | (with_reducible refine Kd.C_drew ?_))); (case side2 => exact (Kd.R_reads' HO237.out).2.1); rintro e w21 ⟨rfl, hb⟩; have n0_ := Aside0.mk (Kd.R_below (by (with_reducible repeat (first | apply Kd.R_alloc | apply Kd.R_drewN | apply Kd.R_drew)); exact HO233.out) hb); have n1_ := Aside0.mk (Kd.R_below (by (with_reducible repeat (first | apply Kd.R_alloc | apply Kd.R_drewN | apply Kd.R_drew)); exact HO237.out) hb); have n2_ := bb BK229 hb; have n3_ := bb BK230 hb; have n4_ := bs HB hb; clear HO233; clear HO237; clear BK229; clear BK230; clear HB; have HO233 := n0_; have HO237 := n1_; have BK229 := n2_; have BK230 := n3_; have HB := n4_; clear n0_ n1_ n2_ n3_ n4_; (try clear hb); (try clear hb2); (try clear hk); (try clear hi)))
              go_ret
              exact ⟨by first | rfl | (simp [errW_none, errW_some] <;> rfl) | (simp [*, errW_none, errW_some] <;> rfl) | (exfalso; first | contradiction | (revert c3b0 c4b0 c6b0 c8b0; simp +contextual; done)), by repeat (first | (with_reducible first | exact HB.out | apply below_alloc | apply pw_below_drewN | apply below_drew1 | refine below_set ?_ GE229.out | refine below_set ?_ GE230.out) | exact HB.out)⟩
            · rw [if_neg c8] at H
              exact absurd H (by simp)
          · rw [if_neg c7] at H
            exact absurd H (by simp)
        · rw [if_neg c6] at H
          exact absurd H (by simp)
      · rw [if_neg c5] at H
        exact absurd H (by simp)
    · rw [if_neg c4] at H
      exact absurd H (by simp)
  · rw [if_neg c3] at H
    exact absurd H (by simp)

end Go.Proofs.Ytaejikbfnlihmaa.P
