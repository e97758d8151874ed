-- Written by a program of this session (hprint.py), out of the translation; functions that the print does not take are given by hand.
import Derived.Test.YtaejikbfnlihmaaPx0
import Derived.Test.YtaejikbfnlihmaaPx5
import Derived.Test.YtaejikbfnlihmaaPx6
import Derived.Test.YtaejikbfnlihmaaPx15
namespace Go.Proofs.Ytaejikbfnlihmaa.P
open Go.RowKit Go.Proofs.YtaejikbfnlihmaaM Go.Proofs.YtaejikbfnlihmaaW.PrintWords Go.Proofs.YtaejikbfnlihmaaW.PrintLast Go.Proofs.YtaejikbfnlihmaaW.PrintMore
attribute [local go_sem] max2_int min2_int max_two min_two max_three min_three max_four min_four   -- for this text's walks alone
set_option linter.unusedVariables false
set_option linter.unusedSimpArgs false

/-! ### spring_Press: function 33 -/
def spring_Press.each : Nat → Int → Int → List Int → List (S53) → Int → Option (List Int)
  | 0, _, _, _, _, _ => none
  | k + 1, a, b, xs, l, i => if i < (l.length : Int) then (if 0 ≤ i then ((spring_Press_1.f a b (rd_T53 l i).f0 (rd_T53 l i).f1 (rd_T53 l i).f2).bind fun t => if xs.length < 17592186044416 then spring_Press.each k a b (xs ++ [t]) l (wrap64 (i + 1)) else none) else none) else some xs
def spring_Press.f (k : Nat) (l0 : List (S53)) (a1 : Int) : Option (List Int × Bool) := (spring_Force.f k l0 a1).bind fun bt => if bt.2.2 = true then ((spring_Press.each k bt.1 bt.2.1 [] l0 0).bind fun t => some (t, true)) else some ([], false)
theorem spring_Press.mono_l : ∀ k, (∀ y0 y1 y2 y3 y4, LeO (spring_Press.each k y0 y1 y2 y3 y4) (spring_Press.each (k + 1) y0 y1 y2 y3 y4))
  | 0 => fun _ _ _ _ _ r h => by simp [spring_Press.each] at h
  | k + 1 => by
    have ih0 := spring_Press.mono_l k
    intro y0 y1 y2 y3 y4
    unfold spring_Press.each
    repeat' first
      | (with_reducible exact ih0 _ _ _ _ _)
      | (with_reducible exact LeO.refl _)
      | (with_reducible exact LeO.none _)
      | (with_reducible refine LeO.ite ?_ ?_)
      | (with_reducible refine LeO.bind ?_ (fun _ => ?_))
      | exact LeO.none _
theorem spring_Press.mono : ∀ a0 a1 k, LeO (spring_Press.f k a0 a1) (spring_Press.f (k + 1) a0 a1) := by
  intro a0 a1 k
  unfold spring_Press.f
  repeat' first
    | (with_reducible exact spring_Press.mono_l _ _ _ _ _ _)
    | (with_reducible exact spring_Force.mono _ _ _)
    | (with_reducible exact LeO.refl _)
    | (with_reducible exact LeO.none _)
    | (with_reducible refine LeO.ite ?_ ?_)
    | (with_reducible refine LeO.bind ?_ (fun _ => ?_))
    | exact LeO.none _
set_option maxHeartbeats 8000000 in
set_option maxRecDepth 100000 in
theorem spring_Press.eachc (k : Nat) (a b : Int) (pa pb : Nat) (A0 : Option Addr) (c0 : Nat) (l0 : List (S53)) (r : List Int) (w : World) (ha : w.cell? ⟨pa, 0, none⟩ = some (.int .i64 a)) (hb : w.cell? ⟨pb, 0, none⟩ = some (.int .i64 b)) (hr0 : Kd.C k53 w A0 l0.length l0) (hc0 : l0.length ≤ c0) (h : spring_Press.each k a b [] l0 0 = some r) :
    Calls Try.prog 51 #[.slice A0 l0.length c0, .func (.func 58) #[] #[.pointer (some ⟨pa, 0, none⟩), .pointer (some ⟨pb, 0, none⟩)]] w fun e w' => ∃ v0_ : Value, e = .returned (v0_) ∧ Kd.R (Kd.int .i64) 3 w' w.heap.size (fun _ => True) v0_ r ∧ Below w.heap.size w w' := by
  have hu33 := Try.underlying53
  have HR0 := Aside0.mk hr0
  have HC0 := Aside0.mk hc0
  have HA0 := Aside0.mk ha
  have HB0 := Aside0.mk hb
  have H' := Aside0.mk h
  clear hr0 hc0 ha hb h
  go_enter Try.func51, Try.ntmps51
  go_wp2
  go_loopg [5, 10] k (fun kq v5 v10 w' => ∃ (xs : List Int) (i : Int), v10 = .int .i64 i ∧ Aside0 (spring_Press.each kq a b xs l0 i = some r) ∧ Aside0 (kq ≤ k) ∧ Aside0 (Kd.R (Kd.int .i64) 3 w' w.heap.size (fun _ => True) v5 xs) ∧ Aside0 (Below w.heap.size w w'))
  case atStart => exact ⟨[], 0, rfl, H', ⟨Nat.le_refl _⟩, ⟨Kd.R_nil _ _ _ _ _⟩, ⟨Below.refl _ _⟩⟩
  case round =>
    clear H'
    obtain ⟨xs, i, rfl, HA, HK1, HO, HB⟩ := hrel
    cases gk with
    | zero => exact absurd HA.out (by simp [spring_Press.each])
    | succ k1 =>
      have H := HA.out
      clear HA
      rw [spring_Press.each] at H
      by_cases c2 : i < (l0.length : Int)
      · rw [if_pos c2] at H
        by_cases c3 : 0 ≤ i
        · rw [if_pos c3] at H
          obtain ⟨t, ht, H⟩ := Option.bind_eq_some_iff.mp H
          by_cases c4 : xs.length < 17592186044416
          · rw [if_pos c4] at H
            obtain ⟨ad, e0, h0, h1, h2⟩ := at_T53 HR0.out i c3 c2
            cases e0
            replace h0 := (HB.out.cell (World.block_lt_of_cell? w _ h0)).trans h0
            replace h1 := (HB.out.cell (World.block_lt_of_cell? w _ h1)).trans h1
            replace h2 := (HB.out.cell (World.block_lt_of_cell? w _ h2)).trans h2
            have HA1 := Aside0.mk (spring_Press_1.ca (ob := .cells #[.int .i64 (rd_T53 l0 i).f0, .int .i64 (rd_T53 l0 i).f1, .int .i64 (rd_T53 l0 i).f2] 53) ((HB.out.cell (World.block_lt_of_cell? w _ HA0.out)).trans HA0.out))
            have HB1 := Aside0.mk (spring_Press_1.ca (ob := .cells #[.int .i64 (rd_T53 l0 i).f0, .int .i64 (rd_T53 l0 i).f1, .int .i64 (rd_T53 l0 i).f2] 53) ((HB.out.cell (World.block_lt_of_cell? w _ HB0.out)).trans HB0.out))
            have A1 := Aside0.mk ht
            have LM := Aside0.mk c4
            have c2b : decide (i < (l0.length : Int)) = true := decide_eq_true c2
            have c3b : decide (0 ≤ i) = true := decide_eq_true c3
            have p1 := eq_true c3
            have q1 := eq_true c2
            obtain ⟨ys, hys⟩ : ∃ ys : List Int, ys = xs ++ [t] := ⟨_, rfl⟩
            rw [← hys] at H
            have NY := Aside0.mk hys
            have H' := Aside0.mk H
            clear ht H c2 c3 c4 hys
            go_wp2_with (first | (go_at_call 58; (with_reducible refine (spring_Press_1.calls a b _ _ _ pa pb t _ HA1.out HB1.out A1.out).mono ?_); rintro e w3 ⟨rfl, hb⟩; have HO3 := Aside0.mk (Kd.R_below (Kd.R_alloc HO.out _) hb); have HB3 := bs HB hb; clear hb) | ((with_reducible refine gate_builtin (b := .append) (xs := #[.tmp 14, .tmp 18]) rfl ?_); at_builtin; refine Kd.R_append (Kd.int .i64) (w0 := w) w.heap.size rfl (.tmp 14) (.tmp 18) 55 3 (.int .i64 0) 8 rfl Try.underlying55 info3 rfl (by decide) (by omega) u5 xs t [.int .i64 t] (fun _ => True) (fun _ => False) rfl rfl ?aP (fun _ hk => hk.elim) ?aF ?aO ?aB ?aS ?aL ?_; (case aP => exact rfl); (case aB => exact (by repeat (first | (with_reducible first | exact HB3.out | apply below_alloc | apply pw_below_drewN | apply below_drew1) | exact HB3.out))); (case aF => exact (fun _ _ => trivial)); (case aO => exact (by (with_reducible repeat (first | apply Kd.R_alloc | apply Kd.R_drewN | apply Kd.R_drew)); exact HO3.out)); (case aS => exact (below_size (by repeat (first | (with_reducible first | exact HB3.out | apply below_alloc | apply pw_below_drewN | apply below_drew1) | exact HB3.out)))); (case aL => have := LM.out; omega); intro v4 w4 ho hb hg hat; rw [← NY.out] at ho; have HO4 := Aside0.mk ho; have HB4 := Aside0.mk hb; clear ho hb hg hat))
            go_roundg k1
            case measure => have := HK1.out; omega
            case rel => exact ⟨ys, _, rfl, H', ⟨by have := HK1.out; omega⟩, HO4, HB4⟩
          · rw [if_neg c4] at H
            cases H
        · rw [if_neg c3] at H
          cases H
      · rw [if_neg c2] at H
        obtain rfl := Option.some.inj H
        have c2b : decide (i < (l0.length : Int)) = false := decide_eq_false c2
        clear c2 H
        go_wp2
        go_ret
        exact ⟨_, rfl, HO.out, HB.out⟩
theorem spring_Press.two1 (w : World) (t : TypeId) (a b : Int) : ((w.alloc (.cells #[.int .i64 a] t)).alloc (.cells #[.int .i64 b] t)).cell? ⟨w.heap.size, 0, none⟩ = some (.int .i64 a) := (blk_cell (two_old w _ _) 0).trans rfl
theorem spring_Press.two2 (w : World) (t : TypeId) (a b : Int) : ((w.alloc (.cells #[.int .i64 a] t)).alloc (.cells #[.int .i64 b] t)).cell? ⟨w.heap.size + 1, 0, none⟩ = some (.int .i64 b) := (blk_cell (two_new w _ _) 0).trans rfl
set_option maxHeartbeats 8000000 in
set_option maxRecDepth 100000 in
theorem spring_Press.calls (k : Nat) (A0 : Option Addr) (c0 : Nat) (l0 : List (S53)) (a1 : Int) (r1 : List Int) (r2 : Bool) (w : World) (hr0 : Kd.C k53 w A0 l0.length l0) (hc0 : l0.length ≤ c0) (h : spring_Press.f k l0 a1 = some (r1, r2)) :
    Calls Try.prog 33 #[.slice A0 l0.length c0, .int .i64 a1] w fun e w' => ∃ v0_ : Value, e = .returned (.tuple #[v0_, .bool r2]) ∧ Kd.R (Kd.int .i64) 3 w' w.heap.size (fun _ => True) v0_ r1 ∧ Below w.heap.size w w' := by
  have hmf : ∀ (fn : Fn) (first cap : Array Value) (w : World), (Instr.makeFunc fn first cap).run Try.prog w = .ok (.func fn first cap) w := fun _ _ _ _ => rfl
  have HR0 := Aside0.mk hr0
  have HC0 := Aside0.mk hc0
  have HB := Aside0.mk (Below.refl w.heap.size w)
  clear hr0 hc0
  unfold spring_Press.f at h
  obtain ⟨⟨a, b, is⟩, hf, h⟩ := Option.bind_eq_some_iff.mp h
  dsimp only at h
  have A1 := Aside0.mk hf
  clear hf
  cases is with
  | false =>
    rw [if_neg (by decide)] at h
    simp only [Option.some.injEq, Prod.mk.injEq] at h
    obtain ⟨rfl, rfl⟩ := h
    go_enter Try.func33, Try.ntmps33
    go_wp2_with (first | (go_at_call 57; (with_reducible refine (spring_Force.calls k _ _ l0 a1 a b false _ HR0.out HC0.out A1.out).mono ?_); rintro e w3 ⟨rfl, hb⟩; have HB3 := bs HB hb; clear hb))
    go_ret2
    exact ⟨_, rfl, Kd.R_nil _ _ _ _ _, below_alloc (below_alloc HB3.out _) _⟩
  | true =>
    rw [if_pos rfl] at h
    obtain ⟨t, ht, h⟩ := Option.bind_eq_some_iff.mp h
    simp only [Option.some.injEq, Prod.mk.injEq] at h
    obtain ⟨rfl, rfl⟩ := h
    have A2 := Aside0.mk ht
    clear ht
    go_enter Try.func33, Try.ntmps33
    go_wp2_with (first | (go_at_call 57; (with_reducible refine (spring_Force.calls k _ _ l0 a1 a b true _ HR0.out HC0.out A1.out).mono ?_); rintro e w3 ⟨rfl, hb⟩; have HB3 := bs HB hb; have P1 := Aside0.mk (spring_Press.two1 w3 3 a b); have P2 := Aside0.mk (spring_Press.two2 w3 3 a b); have HB4 := Aside0.mk (below_alloc (below_alloc HB3.out (.cells #[.int .i64 a] 3)) (.cells #[.int .i64 b] 3)); clear hb) | (go_at_call 51; (with_reducible refine (spring_Press.eachc k a b w3.heap.size (w3.heap.size + 1) _ _ l0 t _ P1.out P2.out (Kd.C_alloc (Kd.C_alloc (Kd.C_below HR0.out HB3.out) _) _) HC0.out A2.out).mono ?_); rintro e w5 ⟨v5, rfl, ho, hb⟩; have HO5 := Aside0.mk ho; have HB5 := bs HB4 hb; clear ho hb))
    go_ret2
    exact ⟨_, rfl, Kd.R_lower HO5.out HB4.out.size, HB5.out⟩

-- NOT PRINTED: function 34 (api_Fix)

/-! ### period_Of: function 36 -/
def period_Of.j0 : Nat → Int → Bool → Int → Int → Int → Int → Int → Int → Option (Int × Bool)
  | 0, _, _, _, _, _, _, _, _ => none
  | k + 1, x1, x18, x206000, x206001, x206002, x206003, x206004, x206005 => if x18 = true then (some (0, false)) else ((frac_Ceil.f (wrap64 ((wrap64 (x206000 * x206003)) * 1048576)) (wrap64 (x1 * x206004))).bind fun bt207 => (if (mx bt207.1 x206001) > x206002 then (some (0, false)) else ((units_At.f x206000 x206001 x206002 x206003 x206004 x206005 (mx bt207.1 x206001)).bind fun t209 => (if t209 > x1 then (some (0, false)) else (some (mx bt207.1 x206001, true))))))
def period_Of.f (k : Nat) (a0_0 : Int) (a0_1 : Int) (a0_2 : Int) (a0_3 : Int) (a0_4 : Int) (a0_5 : Int) (a1 : Int) : Option (Int × Bool) := (spec_May.f a0_0 a0_1 a0_2 a0_3 a0_4 a0_5).bind fun t206 => (if t206 = true then (if a1 < 1 then (period_Of.j0 k a1 true a0_0 a0_1 a0_2 a0_3 a0_4 a0_5) else (period_Of.j0 k a1 (decide (a1 > 1048576)) a0_0 a0_1 a0_2 a0_3 a0_4 a0_5)) else (period_Of.j0 k a1 true a0_0 a0_1 a0_2 a0_3 a0_4 a0_5))
theorem period_Of.mono_l : ∀ k, (∀ y0 y1 y2 y3 y4 y5 y6 y7, LeO (period_Of.j0 k y0 y1 y2 y3 y4 y5 y6 y7) (period_Of.j0 (k + 1) y0 y1 y2 y3 y4 y5 y6 y7))
  | 0 => fun _ _ _ _ _ _ _ _ r h => by simp [period_Of.j0] at h
  | k + 1 => by
    have ih0 := period_Of.mono_l k
    · intro y0 y1 y2 y3 y4 y5 y6 y7
      unfold period_Of.j0
      repeat' first
      | (with_reducible exact ih0 _ _ _ _ _ _ _ _)
      | (with_reducible exact LeO.refl _)
      | (with_reducible exact LeO.none _)
      | (with_reducible refine LeO.ite ?_ ?_)
      | (with_reducible refine LeO.bind ?_ (fun _ => ?_))
      | exact ih0 _ _ _ _ _ _ _ _
      | exact LeO.none _
      | refine LeO.ite ?_ ?_
      | refine LeO.bind ?_ (fun _ => ?_)
theorem period_Of.mono : ∀ a0 a1 a2 a3 a4 a5 a6 k, LeO (period_Of.f k a0 a1 a2 a3 a4 a5 a6) (period_Of.f (k + 1) a0 a1 a2 a3 a4 a5 a6) := by
  intro a0 a1 a2 a3 a4 a5 a6 k
  have ih0 := period_Of.mono_l k
  unfold period_Of.f
  repeat' first
      | (with_reducible exact ih0 _ _ _ _ _ _ _ _)
      | (with_reducible exact LeO.refl _)
      | (with_reducible exact LeO.none _)
      | (with_reducible refine LeO.ite ?_ ?_)
      | (with_reducible refine LeO.bind ?_ (fun _ => ?_))
      | exact ih0 _ _ _ _ _ _ _ _
      | exact LeO.none _
      | refine LeO.ite ?_ ?_
      | refine LeO.bind ?_ (fun _ => ?_)
set_option maxHeartbeats 8000000 in
set_option maxRecDepth 100000 in
theorem period_Of.calls (k : Nat) (a0_0 : Int) (a0_1 : Int) (a0_2 : Int) (a0_3 : Int) (a0_4 : Int) (a0_5 : Int) (a1 : Int) (r1 : Int) (r2 : Bool) (w : World) (h : period_Of.f k a0_0 a0_1 a0_2 a0_3 a0_4 a0_5 a1 = some (r1, r2)) :
    Calls Try.prog 36 #[.agg #[.int .i64 a0_0, .int .i64 a0_1, .int .i64 a0_2, .int .i64 a0_3, .int .i64 a0_4, .int .i64 a0_5], .int .i64 a1] w fun e w' => e = .returned (.tuple #[.int .i64 r1, .bool r2]) ∧ Below w.heap.size w w' := by
  have hu40 := Try.underlying40
  have HB := Aside0.mk (Below.refl w.heap.size w)
  have H : ((spec_May.f a0_0 a0_1 a0_2 a0_3 a0_4 a0_5).bind fun t206 => (if t206 = true then (if a1 < 1 then (period_Of.j0 k a1 true a0_0 a0_1 a0_2 a0_3 a0_4 a0_5) else (period_Of.j0 k a1 (decide (a1 > 1048576)) a0_0 a0_1 a0_2 a0_3 a0_4 a0_5)) else (period_Of.j0 k a1 true a0_0 a0_1 a0_2 a0_3 a0_4 a0_5))) = some (r1, r2) := h
  clear h
  have HC3 := Aside0.mk H
  clear H
  go_enter Try.func36, Try.ntmps36
  go_upto_region 1 with (first | ((with_reducible refine gate_dst (N := 2) rfl ?_); refine box_event ?hg (N := 2) ?hd (cs := #[.int .i64 a0_0, .int .i64 a0_1, .int .i64 a0_2, .int .i64 a0_3, .int .i64 a0_4, .int .i64 a0_5]) (t := 40) ?hr ?_; (case hd => rfl); (case hg => rfl); (case hr => first | (go_simp; done) | (go_simp; rfl)); intro gb205 hg w4 hbox hb; have n0_ := bs HB hb; have n1_ := Aside0.mk (hbox); have n2_ := bz HB hg; have n3_ := bz HB hg; clear HB; have HB := n0_; have BK205 := n1_; have GW205 := n2_; have GE205 := n3_; clear n0_ n1_ n2_ n3_; clear hb hbox hg))
  (try simp only [Act.put, List.setIfInBounds_toArray, List.set_cons_zero, List.set_cons_succ])
  go_cut [18] (fun v18 wc => ∃ (kq : Nat) (x18_2 : Bool), v18 = .bool x18_2 ∧ Aside0 (period_Of.j0 kq a1 x18_2 a0_0 a0_1 a0_2 a0_3 a0_4 a0_5 = some (r1, r2)) ∧ Aside0 (kq ≤ k) ∧ Aside0 (wc.heap[gb205]? = some (.cells #[.int .i64 a0_0, .int .i64 a0_1, .int .i64 a0_2, .int .i64 a0_3, .int .i64 a0_4, .int .i64 a0_5] 40 (0, 0))) ∧ Aside0 (Below w.heap.size w wc))
  case first =>
    have H := HC3.out
    clear HC3
    replace H := Option.bind_eq_some_iff.mp H
    obtain ⟨t206, A50, H⟩ := H
    try dsimp only at H
    have A5 := Aside0.mk A50
    clear A50
    by_cases c6 : t206 = true
    · subst c6
      rw [if_pos rfl] at H
      by_cases c7 : a1 < 1
      · rw [if_pos c7] at H
        have c7b0 : decide (a1 < 1) = true := decide_eq_true c7
        clear c7
        (first | rw [c7b0] | (simp only [i64_w, i32_w]; rw [c7b0]) | skip)
        have H' := Aside0.mk H
        clear H
        obtain ⟨hcz8_0, hcz8_1, hcz8_2, hcz8_3, hcz8_4, hcz8_5⟩ := cc6 BK205
        obtain ⟨hfz8_0, hfz8_1, hfz8_2, hfz8_3, hfz8_4, hfz8_5⟩ := cf6 BK205
        go_wp2_with (first | ((with_reducible refine gate_callee (f := 22) rfl ?_); refine goesL_ (some 9) rfl rfl Try.func22 (by kernel_rfl) rfl #[.agg #[.int .i64 a0_0, .int .i64 a0_1, .int .i64 a0_2, .int .i64 a0_3, .int .i64 a0_4, .int .i64 a0_5]] rfl (by (try simp only [List.map_toArray, List.map_cons, List.map_nil]); first | done | rfl | (simp only [List.length_drop, List.length_take]; rfl)) ?_; (with_reducible refine (spec_May.calls a0_0 a0_1 a0_2 a0_3 a0_4 a0_5 true _ A5.out).mono ?_); rintro e w9 ⟨rfl, hb⟩; refine ⟨_, rfl, ?_⟩; have n0_ := bb BK205 hb; have n1_ := bs HB hb; clear BK205; clear HB; have BK205 := n0_; have HB := n1_; clear n0_ n1_; (try clear hb); (try clear hb2); (try clear hk); (try clear hi)))
        go_meet
        case rel => exact ⟨_, (true), (by first | rfl | (simp; done) | (simp [*]; done)), H', ⟨by first | omega | exact Nat.le_refl _⟩, ⟨by (with_reducible repeat (first | refine bN ?_ _ | refine bD ?_ | refine bA ?_ _)); exact BK205.out⟩, ⟨by repeat (first | (with_reducible first | exact HB.out | apply below_alloc | apply pw_below_drewN | apply below_drew1 | refine below_set ?_ GE205.out) | exact HB.out)⟩⟩
      · rw [if_neg c7] at H
        have c7b0 : decide (a1 < 1) = false := decide_eq_false c7
        clear c7
        (first | rw [c7b0] | (simp only [i64_w, i32_w]; rw [c7b0]) | skip)
        have H' := Aside0.mk H
        clear H
        obtain ⟨hcz10_0, hcz10_1, hcz10_2, hcz10_3, hcz10_4, hcz10_5⟩ := cc6 BK205
        obtain ⟨hfz10_0, hfz10_1, hfz10_2, hfz10_3, hfz10_4, hfz10_5⟩ := cf6 BK205
        go_wp2_with (first | ((with_reducible refine gate_callee (f := 22) rfl ?_); refine goesL_ (some 9) rfl rfl Try.func22 (by kernel_rfl) rfl #[.agg #[.int .i64 a0_0, .int .i64 a0_1, .int .i64 a0_2, .int .i64 a0_3, .int .i64 a0_4, .int .i64 a0_5]] rfl (by (try simp only [List.map_toArray, List.map_cons, List.map_nil]); first | done | rfl | (simp only [List.length_drop, List.length_take]; rfl)) ?_; (with_reducible refine (spec_May.calls a0_0 a0_1 a0_2 a0_3 a0_4 a0_5 true _ A5.out).mono ?_); rintro e w11 ⟨rfl, hb⟩; refine ⟨_, rfl, ?_⟩; have n0_ := bb BK205 hb; have n1_ := bs HB hb; clear BK205; clear HB; have BK205 := n0_; have HB := n1_; clear n0_ n1_; (try clear hb); (try clear hb2); (try clear hk); (try clear hi)))
        go_meet
        case rel => exact ⟨_, (decide (a1 > 1048576)), (by first | rfl | (simp; done) | (simp [*]; done)), H', ⟨by first | omega | exact Nat.le_refl _⟩, ⟨by (with_reducible repeat (first | refine bN ?_ _ | refine bD ?_ | refine bA ?_ _)); exact BK205.out⟩, ⟨by repeat (first | (with_reducible first | exact HB.out | apply below_alloc | apply pw_below_drewN | apply below_drew1 | refine below_set ?_ GE205.out) | exact HB.out)⟩⟩
    · replace c6 := Bool.eq_false_iff.mpr c6
      subst c6
      rw [if_neg (show ¬ (false = true) by decide)] at H
      have H' := Aside0.mk H
      clear H
      obtain ⟨hcz12_0, hcz12_1, hcz12_2, hcz12_3, hcz12_4, hcz12_5⟩ := cc6 BK205
      obtain ⟨hfz12_0, hfz12_1, hfz12_2, hfz12_3, hfz12_4, hfz12_5⟩ := cf6 BK205
      go_wp2_with (first | ((with_reducible refine gate_callee (f := 22) rfl ?_); refine goesL_ (some 9) rfl rfl Try.func22 (by kernel_rfl) rfl #[.agg #[.int .i64 a0_0, .int .i64 a0_1, .int .i64 a0_2, .int .i64 a0_3, .int .i64 a0_4, .int .i64 a0_5]] rfl (by (try simp only [List.map_toArray, List.map_cons, List.map_nil]); first | done | rfl | (simp only [List.length_drop, List.length_take]; rfl)) ?_; (with_reducible refine (spec_May.calls a0_0 a0_1 a0_2 a0_3 a0_4 a0_5 false _ A5.out).mono ?_); rintro e w13 ⟨rfl, hb⟩; refine ⟨_, rfl, ?_⟩; have n0_ := bb BK205 hb; have n1_ := bs HB hb; clear BK205; clear HB; have BK205 := n0_; have HB := n1_; clear n0_ n1_; (try clear hb); (try clear hb2); (try clear hk); (try clear hi)))
      go_meet
      case rel => exact ⟨_, (true), (by first | rfl | (simp; done) | (simp [*]; done)), H', ⟨by first | omega | exact Nat.le_refl _⟩, ⟨by (with_reducible repeat (first | refine bN ?_ _ | refine bD ?_ | refine bA ?_ _)); exact BK205.out⟩, ⟨by repeat (first | (with_reducible first | exact HB.out | apply below_alloc | apply pw_below_drewN | apply below_drew1 | refine below_set ?_ GE205.out) | exact HB.out)⟩⟩
  case rest =>
    clear HC3
    try clear c2
    try clear p2
    try clear c3
    try clear c6
    try clear c7
    try clear c7b0
    try clear hcz10_0
    try clear hcz10_1
    try clear hcz10_2
    try clear hcz10_3
    try clear hcz10_4
    try clear hcz10_5
    try clear hcz12_0
    try clear hcz12_1
    try clear hcz12_2
    try clear hcz12_3
    try clear hcz12_4
    try clear hcz12_5
    try clear hcz8_0
    try clear hcz8_1
    try clear hcz8_2
    try clear hcz8_3
    try clear hcz8_4
    try clear hcz8_5
    try clear hfz10_0
    try clear hfz10_1
    try clear hfz10_2
    try clear hfz10_3
    try clear hfz10_4
    try clear hfz10_5
    try clear hfz12_0
    try clear hfz12_1
    try clear hfz12_2
    try clear hfz12_3
    try clear hfz12_4
    try clear hfz12_5
    try clear hfz8_0
    try clear hfz8_1
    try clear hfz8_2
    try clear hfz8_3
    try clear hfz8_4
    try clear hfz8_5
    obtain ⟨kq, x18_2, rfl, HA, HJ2, BK205, HB⟩ := hcut
    cases kq with
    | zero => exact absurd HA.out (by simp [period_Of.j0])
    | succ kj2 =>
      have H := HA.out
      clear HA
      simp only [period_Of.j0] at H
      by_cases c14 : x18_2 = true
      · subst c14
        rw [if_pos rfl] at H
        simp only [Option.some.injEq, Prod.mk.injEq] at H
        obtain ⟨rfl, rfl⟩ := H
        go_wp2
        go_ret2
        exact ⟨by first | rfl | (simp [errW_none, errW_some] <;> rfl) | (simp [*, errW_none, errW_some] <;> rfl) | (exfalso; contradiction), by repeat (first | (with_reducible first | exact HB.out | apply below_alloc | apply pw_below_drewN | apply below_drew1 | refine below_set ?_ GE205.out) | exact HB.out)⟩
      · replace c14 := Bool.eq_false_iff.mpr c14
        subst c14
        rw [if_neg (show ¬ (false = true) by decide)] at H
        replace H := Option.bind_eq_some_iff.mp H
        obtain ⟨⟨t207, t208⟩, A150, H⟩ := H
        try dsimp only at H
        have A15 := Aside0.mk A150
        clear A150
        obtain ⟨ji16, hji16⟩ : ∃ j_ : Int, (mx t207 a0_1) = j_ := ⟨_, rfl⟩
        replace H : (if (ji16) > a0_2 then (some (0, false)) else ((units_At.f a0_0 a0_1 a0_2 a0_3 a0_4 a0_5 (ji16)).bind fun t209 => (if t209 > a1 then (some (0, false)) else (some (ji16, true))))) = some (r1, r2) := by first | (rw [hji16] at H; exact H) | (simp only [hji16] at H ⊢; exact H)
        (try rw [hji16] at A15)
        have hji16_ : (if t207 < a0_1 then a0_1 else t207) = ji16 := hji16
        by_cases c17 : (ji16) > a0_2
        · rw [if_pos c17] at H
          have c17b0 : decide (a0_2 < (ji16)) = true := decide_eq_true c17
          clear c17
          simp only [Option.some.injEq, Prod.mk.injEq] at H
          obtain ⟨rfl, rfl⟩ := H
          obtain ⟨hcz18_0, hcz18_1, hcz18_2, hcz18_3, hcz18_4, hcz18_5⟩ := cc6 BK205
          obtain ⟨hfz18_0, hfz18_1, hfz18_2, hfz18_3, hfz18_4, hfz18_5⟩ := cf6 BK205
          go_wp2_with (first | ((with_reducible refine gate_callee (f := 40) rfl ?_); refine goesL_ (some 30) rfl rfl Try.func40 (by kernel_rfl) rfl #[.int .i64 (wrap64 ((wrap64 (a0_0 * a0_3)) * 1048576)), .int .i64 (wrap64 (a1 * a0_4))] rfl (by (try simp only [List.map_toArray, List.map_cons, List.map_nil]); first | done | rfl | (simp only [List.length_drop, List.length_take]; rfl)) ?_; (with_reducible refine (frac_Ceil.calls (wrap64 ((wrap64 (a0_0 * a0_3)) * 1048576)) (wrap64 (a1 * a0_4)) t207 t208 _ A15.out).mono ?_); rintro e w19 ⟨rfl, hb⟩; refine ⟨_, rfl, ?_⟩; have n0_ := bb BK205 hb; have n1_ := bs HB hb; clear BK205; clear HB; have BK205 := n0_; have HB := n1_; clear n0_ n1_; (try clear hb); (try clear hb2); (try clear hk); (try clear hi); (try clear hcz18_0 hcz18_1 hcz18_2 hcz18_3 hcz18_4 hcz18_5 hfz18_0 hfz18_1 hfz18_2 hfz18_3 hfz18_4 hfz18_5); obtain ⟨hcz20_0, hcz20_1, hcz20_2, hcz20_3, hcz20_4, hcz20_5⟩ := cc6 BK205; obtain ⟨hfz20_0, hfz20_1, hfz20_2, hfz20_3, hfz20_4, hfz20_5⟩ := cf6 BK205))
          go_ret2
          exact ⟨by first | rfl | (simp [errW_none, errW_some] <;> rfl) | (simp only [← hji16]; first | rfl | (simp [errW_none, errW_some] <;> rfl)) | (simp [*, errW_none, errW_some] <;> rfl) | (exfalso; contradiction), by repeat (first | (with_reducible first | exact HB.out | apply below_alloc | apply pw_below_drewN | apply below_drew1 | refine below_set ?_ GE205.out) | exact HB.out)⟩
        · rw [if_neg c17] at H
          have c17b0 : decide (a0_2 < (ji16)) = false := decide_eq_false c17
          clear c17
          replace H := Option.bind_eq_some_iff.mp H
          obtain ⟨t209, A210, H⟩ := H
          try dsimp only at H
          have A21 := Aside0.mk A210
          clear A210
          by_cases c22 : t209 > a1
          · rw [if_pos c22] at H
            have c22b0 : decide (a1 < t209) = true := decide_eq_true c22
            clear c22
            simp only [Option.some.injEq, Prod.mk.injEq] at H
            obtain ⟨rfl, rfl⟩ := H
            obtain ⟨hcz23_0, hcz23_1, hcz23_2, hcz23_3, hcz23_4, hcz23_5⟩ := cc6 BK205
            obtain ⟨hfz23_0, hfz23_1, hfz23_2, hfz23_3, hfz23_4, hfz23_5⟩ := cf6 BK205
            go_wp2_with (first | ((with_reducible refine gate_callee (f := 40) rfl ?_); refine goesL_ (some 30) rfl rfl Try.func40 (by kernel_rfl) rfl #[.int .i64 (wrap64 ((wrap64 (a0_0 * a0_3)) * 1048576)), .int .i64 (wrap64 (a1 * a0_4))] rfl (by (try simp only [List.map_toArray, List.map_cons, List.map_nil]); first | done | rfl | (simp only [List.length_drop, List.length_take]; rfl)) ?_; (with_reducible refine (frac_Ceil.calls (wrap64 ((wrap64 (a0_0 * a0_3)) * 1048576)) (wrap64 (a1 * a0_4)) t207 t208 _ A15.out).mono ?_); rintro e w24 ⟨rfl, hb⟩; refine ⟨_, rfl, ?_⟩; have n0_ := bb BK205 hb; have n1_ := bs HB hb; clear BK205; clear HB; have BK205 := n0_; have HB := n1_; clear n0_ n1_; (try clear hb); (try clear hb2); (try clear hk); (try clear hi); (try clear hcz23_0 hcz23_1 hcz23_2 hcz23_3 hcz23_4 hcz23_5 hfz23_0 hfz23_1 hfz23_2 hfz23_3 hfz23_4 hfz23_5); obtain ⟨hcz25_0, hcz25_1, hcz25_2, hcz25_3, hcz25_4, hcz25_5⟩ := cc6 BK205; obtain ⟨hfz25_0, hfz25_1, hfz25_2, hfz25_3, hfz25_4, hfz25_5⟩ := cf6 BK205) | (go_at_call 25; (with_reducible refine (units_At.calls a0_0 a0_1 a0_2 a0_3 a0_4 a0_5 ji16 t209 _ A21.out).mono ?_); rintro e w26 ⟨rfl, hb⟩; have n0_ := bb BK205 hb; have n1_ := bs HB hb; clear BK205; clear HB; have BK205 := n0_; have HB := n1_; clear n0_ n1_; (try clear hb); (try clear hb2); (try clear hk); (try clear hi)))
            go_ret2
            exact ⟨by first | rfl | (simp [errW_none, errW_some] <;> rfl) | (simp only [← hji16]; first | rfl | (simp [errW_none, errW_some] <;> rfl)) | (simp [*, errW_none, errW_some] <;> rfl) | (exfalso; contradiction), by repeat (first | (with_reducible first | exact HB.out | apply below_alloc | apply pw_below_drewN | apply below_drew1 | refine below_set ?_ GE205.out) | exact HB.out)⟩
          · rw [if_neg c22] at H
            have c22b0 : decide (a1 < t209) = false := decide_eq_false c22
            clear c22
            simp only [Option.some.injEq, Prod.mk.injEq] at H
            obtain ⟨rfl, rfl⟩ := H
            obtain ⟨hcz27_0, hcz27_1, hcz27_2, hcz27_3, hcz27_4, hcz27_5⟩ := cc6 BK205
            obtain ⟨hfz27_0, hfz27_1, hfz27_2, hfz27_3, hfz27_4, hfz27_5⟩ := cf6 BK205
            go_wp2_with (first | ((with_reducible refine gate_callee (f := 40) rfl ?_); refine goesL_ (some 30) rfl rfl Try.func40 (by kernel_rfl) rfl #[.int .i64 (wrap64 ((wrap64 (a0_0 * a0_3)) * 1048576)), .int .i64 (wrap64 (a1 * a0_4))] rfl (by (try simp only [List.map_toArray, List.map_cons, List.map_nil]); first | done | rfl | (simp only [List.length_drop, List.length_take]; rfl)) ?_; (with_reducible refine (frac_Ceil.calls (wrap64 ((wrap64 (a0_0 * a0_3)) * 1048576)) (wrap64 (a1 * a0_4)) t207 t208 _ A15.out).mono ?_); rintro e w28 ⟨rfl, hb⟩; refine ⟨_, rfl, ?_⟩; have n0_ := bb BK205 hb; have n1_ := bs HB hb; clear BK205; clear HB; have BK205 := n0_; have HB := n1_; clear n0_ n1_; (try clear hb); (try clear hb2); (try clear hk); (try clear hi); (try clear hcz27_0 hcz27_1 hcz27_2 hcz27_3 hcz27_4 hcz27_5 hfz27_0 hfz27_1 hfz27_2 hfz27_3 hfz27_4 hfz27_5); obtain ⟨hcz29_0, hcz29_1, hcz29_2, hcz29_3, hcz29_4, hcz29_5⟩ := cc6 BK205; obtain ⟨hfz29_0, hfz29_1, hfz29_2, hfz29_3, hfz29_4, hfz29_5⟩ := cf6 BK205) | (go_at_call 25; (with_reducible refine (units_At.calls a0_0 a0_1 a0_2 a0_3 a0_4 a0_5 ji16 t209 _ A21.out).mono ?_); rintro e w30 ⟨rfl, hb⟩; have n0_ := bb BK205 hb; have n1_ := bs HB hb; clear BK205; clear HB; have BK205 := n0_; have HB := n1_; clear n0_ n1_; (try clear hb); (try clear hb2); (try clear hk); (try clear hi)))
            go_ret2
            exact ⟨by first | rfl | (simp [errW_none, errW_some] <;> rfl) | (simp only [← hji16]; first | rfl | (simp [errW_none, errW_some] <;> rfl)) | (simp [*, errW_none, errW_some] <;> rfl) | (exfalso; contradiction), by repeat (first | (with_reducible first | exact HB.out | apply below_alloc | apply pw_below_drewN | apply below_drew1 | refine below_set ?_ GE205.out) | exact HB.out)⟩

/-! ### plan_Target_1: function 35 -/
def plan_Target_1.f (k : Nat) (u : List Int) (i : Int) (a0 a1 a2 a3 a4 a5 : Int) : Option Int := if 0 ≤ i then (if i < (u.length : Int) then ((period_Of.f k a0 a1 a2 a3 a4 a5 (rd u i)).bind fun bt => some bt.1) else none) else none
theorem plan_Target_1.mono (u : List Int) (i a0 a1 a2 a3 a4 a5 : Int) (k : Nat) : LeO (plan_Target_1.f k u i a0 a1 a2 a3 a4 a5) (plan_Target_1.f (k + 1) u i a0 a1 a2 a3 a4 a5) := by
  unfold plan_Target_1.f
  exact LeO.ite (LeO.ite (LeO.bind (period_Of.mono _ _ _ _ _ _ _ _) (fun _ => LeO.refl _)) (LeO.refl _)) (LeO.refl _)
theorem plan_Target_1.ca {W : World} {b o : Nat} {ob : Obj} {v : Value} (h : W.cell? ⟨b, o, none⟩ = some v) : (W.alloc ob).cell? ⟨b, o, none⟩ = some v := (World.cell?_alloc_some W ⟨b, o, none⟩ ob (by rw [h]; rfl)).trans h
theorem plan_Target_1.ca2 {W : World} {p : Addr} {ob : Obj} {v : Value} (h : W.cell? p = some v) : (W.alloc ob).cell? p = some v := (World.cell?_alloc_some W p ob (by rw [h]; rfl)).trans h
theorem plan_Target_1.cd {W : World} {p : Addr} {v : Value} (h : W.cell? p = some v) : W.drew.cell? p = some v := h
theorem plan_Target_1.cdN {W : World} {p : Addr} {m : Nat} {v : Value} (h : W.cell? p = some v) : (W.drewN m).cell? p = some v := h
theorem plan_Target_1.kp {W W' : World} {p : Addr} {v : Value} (hb : Below W.heap.size W W') (h : W.cell? p = some v) : W'.cell? p = some v := (hb.cell (World.block_lt_of_cell? W p h)).trans h
set_option maxHeartbeats 8000000 in
set_option maxRecDepth 100000 in
theorem plan_Target_1.calls (k : Nat) (u : List Int) (pu : Nat) (A0 : Option Addr) (c0 : Nat) (i a0 a1 a2 a3 a4 a5 : Int) (r : Int) (w : World) (hp : w.cell? ⟨pu, 0, none⟩ = some (.slice A0 u.length c0)) (hu : Kd.C (Kd.int .i64) w A0 u.length u) (h : plan_Target_1.f k u i a0 a1 a2 a3 a4 a5 = some r) :
    Calls Try.prog 35 #[.int .i64 i, .agg #[.int .i64 a0, .int .i64 a1, .int .i64 a2, .int .i64 a3, .int .i64 a4, .int .i64 a5], .pointer (some ⟨pu, 0, none⟩)] w fun e w' => e = .returned (.agg #[.int .i64 a0, .int .i64 a1, .int .i64 a2, .int .i64 a3, .int .i64 a4, .int .i64 a5, .int .i64 r]) ∧ Below w.heap.size w w' := by
  have hu40 := Try.underlying40
  have hu42 := Try.underlying42
  have hu55 := Try.underlying55
  unfold plan_Target_1.f at h
  by_cases c1 : 0 ≤ i
  · rw [if_pos c1] at h
    by_cases c2 : i < (u.length : Int)
    · rw [if_pos c2] at h
      obtain ⟨⟨p, b⟩, hq, h⟩ := Option.bind_eq_some_iff.mp h
      obtain rfl := Option.some.inj h
      obtain ⟨ad, e0, h0⟩ := Kd.at_int hu i c1 c2
      cases e0
      have A1 := Aside0.mk hq
      have c1b : decide (0 ≤ i) = true := decide_eq_true c1
      have c2b : decide (i < (u.length : Int)) = true := decide_eq_true c2
      have p1 := eq_true c1
      have q1 := eq_true c2
      have B1 := Aside0.mk (two_old w (.cells #[.int .i64 a0, .int .i64 a1, .int .i64 a2, .int .i64 a3, .int .i64 a4, .int .i64 a5] 40) (.cells #[.int .i64 0, .int .i64 0, .int .i64 0, .int .i64 0, .int .i64 0, .int .i64 0, .int .i64 0] 42))
      have B2 := Aside0.mk (two_new w (.cells #[.int .i64 a0, .int .i64 a1, .int .i64 a2, .int .i64 a3, .int .i64 a4, .int .i64 a5] 40) (.cells #[.int .i64 0, .int .i64 0, .int .i64 0, .int .i64 0, .int .i64 0, .int .i64 0, .int .i64 0] 42))
      have BB := Aside0.mk (below_alloc (below_alloc (Below.refl w.heap.size w) (.cells #[.int .i64 a0, .int .i64 a1, .int .i64 a2, .int .i64 a3, .int .i64 a4, .int .i64 a5] 40)) (.cells #[.int .i64 0, .int .i64 0, .int .i64 0, .int .i64 0, .int .i64 0, .int .i64 0, .int .i64 0] 42))
      have hp2 := plan_Target_1.ca2 (ob := .cells #[.int .i64 0, .int .i64 0, .int .i64 0, .int .i64 0, .int .i64 0, .int .i64 0, .int .i64 0] 42) (plan_Target_1.ca2 (ob := .cells #[.int .i64 a0, .int .i64 a1, .int .i64 a2, .int .i64 a3, .int .i64 a4, .int .i64 a5] 40) hp)
      have h02 := plan_Target_1.ca2 (ob := .cells #[.int .i64 0, .int .i64 0, .int .i64 0, .int .i64 0, .int .i64 0, .int .i64 0, .int .i64 0] 42) (plan_Target_1.ca2 (ob := .cells #[.int .i64 a0, .int .i64 a1, .int .i64 a2, .int .i64 a3, .int .i64 a4, .int .i64 a5] 40) h0)
      obtain ⟨W, hW⟩ : ∃ W, W = (w.alloc (.cells #[.int .i64 a0, .int .i64 a1, .int .i64 a2, .int .i64 a3, .int .i64 a4, .int .i64 a5] 40)).alloc (.cells #[.int .i64 0, .int .i64 0, .int .i64 0, .int .i64 0, .int .i64 0, .int .i64 0, .int .i64 0] 42) := ⟨_, rfl⟩
      go_enter Try.func35, Try.ntmps35
      go_wp2
      rw [← hW]
      rw [← hW] at B1 B2 BB hp2 h02
      clear hW hp h0 hu h hq c1 c2
      have z0 : W.cell? ⟨w.heap.size, 0, none⟩ = some (.int .i64 a0) := (blk_cell B1.out 0).trans rfl
      have z1 : W.cell? ⟨w.heap.size, 1, none⟩ = some (.int .i64 a1) := (blk_cell B1.out 1).trans rfl
      have z2 : W.cell? ⟨w.heap.size, 2, none⟩ = some (.int .i64 a2) := (blk_cell B1.out 2).trans rfl
      have z3 : W.cell? ⟨w.heap.size, 3, none⟩ = some (.int .i64 a3) := (blk_cell B1.out 3).trans rfl
      have z4 : W.cell? ⟨w.heap.size, 4, none⟩ = some (.int .i64 a4) := (blk_cell B1.out 4).trans rfl
      have z5 : W.cell? ⟨w.heap.size, 5, none⟩ = some (.int .i64 a5) := (blk_cell B1.out 5).trans rfl
      go_region_held3 (fun w' => w'.cell? ⟨w.heap.size, 0, none⟩ = some (.int .i64 a0) ∧ w'.cell? ⟨w.heap.size, 1, none⟩ = some (.int .i64 a1) ∧ w'.cell? ⟨w.heap.size, 2, none⟩ = some (.int .i64 a2) ∧ w'.cell? ⟨w.heap.size, 3, none⟩ = some (.int .i64 a3) ∧ w'.cell? ⟨w.heap.size, 4, none⟩ = some (.int .i64 a4) ∧ w'.cell? ⟨w.heap.size, 5, none⟩ = some (.int .i64 a5) ∧ w'.cell? ⟨pu, 0, none⟩ = some (.slice (some ad) u.length c0) ∧ w'.cell? (ad.add i.toNat) = some (.int .i64 (rd u i)))
        ((refine ⟨?_, ?_, ?_, ?_, ?_, ?_, ?_, ?_⟩ <;> (first | ((repeat (first | (with_reducible assumption) | (with_reducible refine plan_Target_1.ca2 ?_) | (with_reducible refine plan_Target_1.cd ?_) | (with_reducible refine plan_Target_1.cdN ?_))); done) | (go_keep; done) | (simp [*]; done))))
        (first | (go_at_call 36; (with_reducible refine (period_Of.calls k a0 a1 a2 a3 a4 a5 (rd u i) p b _ A1.out).mono ?_); rintro e w' ⟨rfl, hb⟩; have qq0 : w'.cell? ⟨w.heap.size, 0, none⟩ = some (.int .i64 a0) := (plan_Target_1.kp hb (by first | (with_reducible assumption) | assumption | (simp [*]; done))); have qq1 : w'.cell? ⟨w.heap.size, 1, none⟩ = some (.int .i64 a1) := (plan_Target_1.kp hb (by first | (with_reducible assumption) | assumption | (simp [*]; done))); have qq2 : w'.cell? ⟨w.heap.size, 2, none⟩ = some (.int .i64 a2) := (plan_Target_1.kp hb (by first | (with_reducible assumption) | assumption | (simp [*]; done))); have qq3 : w'.cell? ⟨w.heap.size, 3, none⟩ = some (.int .i64 a3) := (plan_Target_1.kp hb (by first | (with_reducible assumption) | assumption | (simp [*]; done))); have qq4 : w'.cell? ⟨w.heap.size, 4, none⟩ = some (.int .i64 a4) := (plan_Target_1.kp hb (by first | (with_reducible assumption) | assumption | (simp [*]; done))); have qq5 : w'.cell? ⟨w.heap.size, 5, none⟩ = some (.int .i64 a5) := (plan_Target_1.kp hb (by first | (with_reducible assumption) | assumption | (simp [*]; done))); have qq6 : w'.cell? ⟨pu, 0, none⟩ = some (.slice (some ad) u.length c0) := (plan_Target_1.kp hb (by first | (with_reducible assumption) | assumption | (simp [*]; done))); have qq7 : w'.cell? (ad.add i.toNat) = some (.int .i64 (rd u i)) := (plan_Target_1.kp hb (by first | (with_reducible assumption) | assumption | (simp [*]; done)))))
      have HB2 := Aside0.mk (below_step (below_drew1 BB.out) hb)
      have E2 := Aside0.mk (blk_below (blk_drew B2.out) hb)
      have y0 : w'.cell? ⟨w.heap.size + 1, 0, none⟩ = some (.int .i64 0) := (blk_cell E2.out 0).trans rfl
      have g0 : w'.frozen? ⟨w.heap.size + 1, 0, none⟩ = false := blk_frozen E2.out 0
      have y1 : w'.cell? ⟨w.heap.size + 1, 1, none⟩ = some (.int .i64 0) := (blk_cell E2.out 1).trans rfl
      have g1 : w'.frozen? ⟨w.heap.size + 1, 1, none⟩ = false := blk_frozen E2.out 1
      have y2 : w'.cell? ⟨w.heap.size + 1, 2, none⟩ = some (.int .i64 0) := (blk_cell E2.out 2).trans rfl
      have g2 : w'.frozen? ⟨w.heap.size + 1, 2, none⟩ = false := blk_frozen E2.out 2
      have y3 : w'.cell? ⟨w.heap.size + 1, 3, none⟩ = some (.int .i64 0) := (blk_cell E2.out 3).trans rfl
      have g3 : w'.frozen? ⟨w.heap.size + 1, 3, none⟩ = false := blk_frozen E2.out 3
      have y4 : w'.cell? ⟨w.heap.size + 1, 4, none⟩ = some (.int .i64 0) := (blk_cell E2.out 4).trans rfl
      have g4 : w'.frozen? ⟨w.heap.size + 1, 4, none⟩ = false := blk_frozen E2.out 4
      have y5 : w'.cell? ⟨w.heap.size + 1, 5, none⟩ = some (.int .i64 0) := (blk_cell E2.out 5).trans rfl
      have g5 : w'.frozen? ⟨w.heap.size + 1, 5, none⟩ = false := blk_frozen E2.out 5
      have y6 : w'.cell? ⟨w.heap.size + 1, 6, none⟩ = some (.int .i64 0) := (blk_cell E2.out 6).trans rfl
      have g6 : w'.frozen? ⟨w.heap.size + 1, 6, none⟩ = false := blk_frozen E2.out 6
      have E := Aside0.mk (blk_put (cs := #[.int .i64 a0, .int .i64 a1, .int .i64 a2, .int .i64 a3, .int .i64 a4, .int .i64 a5, .int .i64 0]) (cs' := #[.int .i64 a0, .int .i64 a1, .int .i64 a2, .int .i64 a3, .int .i64 a4, .int .i64 a5, .int .i64 p]) (blk_put (cs := #[.int .i64 a0, .int .i64 a1, .int .i64 a2, .int .i64 a3, .int .i64 a4, .int .i64 0, .int .i64 0]) (cs' := #[.int .i64 a0, .int .i64 a1, .int .i64 a2, .int .i64 a3, .int .i64 a4, .int .i64 a5, .int .i64 0]) (blk_put (cs := #[.int .i64 a0, .int .i64 a1, .int .i64 a2, .int .i64 a3, .int .i64 0, .int .i64 0, .int .i64 0]) (cs' := #[.int .i64 a0, .int .i64 a1, .int .i64 a2, .int .i64 a3, .int .i64 a4, .int .i64 0, .int .i64 0]) (blk_put (cs := #[.int .i64 a0, .int .i64 a1, .int .i64 a2, .int .i64 0, .int .i64 0, .int .i64 0, .int .i64 0]) (cs' := #[.int .i64 a0, .int .i64 a1, .int .i64 a2, .int .i64 a3, .int .i64 0, .int .i64 0, .int .i64 0]) (blk_put (cs := #[.int .i64 a0, .int .i64 a1, .int .i64 0, .int .i64 0, .int .i64 0, .int .i64 0, .int .i64 0]) (cs' := #[.int .i64 a0, .int .i64 a1, .int .i64 a2, .int .i64 0, .int .i64 0, .int .i64 0, .int .i64 0]) (blk_put (cs := #[.int .i64 a0, .int .i64 0, .int .i64 0, .int .i64 0, .int .i64 0, .int .i64 0, .int .i64 0]) (cs' := #[.int .i64 a0, .int .i64 a1, .int .i64 0, .int .i64 0, .int .i64 0, .int .i64 0, .int .i64 0]) (blk_put (cs := #[.int .i64 0, .int .i64 0, .int .i64 0, .int .i64 0, .int .i64 0, .int .i64 0, .int .i64 0]) (cs' := #[.int .i64 a0, .int .i64 0, .int .i64 0, .int .i64 0, .int .i64 0, .int .i64 0, .int .i64 0]) E2.out 0 (.int .i64 a0) rfl) 1 (.int .i64 a1) rfl) 2 (.int .i64 a2) rfl) 3 (.int .i64 a3) rfl) 4 (.int .i64 a4) rfl) 5 (.int .i64 a5) rfl) 6 (.int .i64 p) rfl)
      clear hb hp2 h02 z0 z1 z2 z3 z4 z5 qq6 qq7
      go_wp2
      refine bodyPost_ret (results_cell_row rfl _ _ (w.heap.size + 1) 42 #[.int .i64 a0, .int .i64 a1, .int .i64 a2, .int .i64 a3, .int .i64 a4, .int .i64 a5, .int .i64 p] (0, 0) _ rfl E.out hu42 rfl (by kernel_rfl)) rfl ⟨rfl, below_set (below_set (below_set (below_set (below_set (below_set (below_set (HB2.out) (Nat.le_succ _)) (Nat.le_succ _)) (Nat.le_succ _)) (Nat.le_succ _)) (Nat.le_succ _)) (Nat.le_succ _)) (Nat.le_succ _)⟩
    · rw [if_neg c2] at h
      cases h
  · rw [if_neg c1] at h
    cases h

end Go.Proofs.Ytaejikbfnlihmaa.P
