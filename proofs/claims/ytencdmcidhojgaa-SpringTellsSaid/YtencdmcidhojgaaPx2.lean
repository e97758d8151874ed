-- Written by a program of this session (hprint.py), out of the translation; functions that the print does not take are given by hand.
import Derived.Test.YtencdmcidhojgaaPx0
import Derived.Test.YtencdmcidhojgaaPx1
namespace Go.Proofs.Ytencdmcidhojgaa.P
open Go.RowKit Go.Proofs.YtencdmcidhojgaaM Go.Proofs.YtencdmcidhojgaaW.PrintWords Go.Proofs.YtencdmcidhojgaaW.PrintLast Go.Proofs.YtencdmcidhojgaaW.PrintMore
attribute [local go_sem] max2_int min2_int max_two min_two max_three min_three max_four min_four   -- for this text's walks alone
set_option linter.unusedVariables false
set_option linter.unusedSimpArgs false

/-! ### units_Sum: function 29 -/
def units_Sum.bad (x : Int) : Bool := decide (x < 0) || decide (1099511627776 < x)
def units_Sum.f (l0 : List Int) : Option (Int × Bool) := if l0.length ≤ 1000 ∧ l0.any units_Sum.bad = false then some (l0.sum, true) else some (0, false)
def units_Sum.go (s : Int) : List Int → Option (Int × Bool)
  | [] => some (s, true)
  | x :: t => if units_Sum.bad x = true then some (0, false) else units_Sum.go (s + x) t
theorem units_Sum.go_eq : ∀ (l : List Int) (s : Int), units_Sum.go s l = if l.any units_Sum.bad = false then some (s + l.sum, true) else some (0, false)
  | [], s => by simp [units_Sum.go]
  | x :: t, s => by
    rw [units_Sum.go, units_Sum.go_eq t (s + x)]
    cases h : units_Sum.bad x with
    | true => simp [h]
    | false => simp [h, Int.add_assoc]
theorem units_Sum.f_go (l : List Int) (h : l.length ≤ 1000) : units_Sum.f l = units_Sum.go 0 l := by
  rw [units_Sum.go_eq]
  unfold units_Sum.f
  simp [h]
theorem units_Sum.drop_go (l : List Int) (i : Nat) (s : Int) (h : i < l.length) : units_Sum.go s (l.drop i) = if units_Sum.bad (l.getD i 0) = true then some (0, false) else units_Sum.go (s + l.getD i 0) (l.drop (i + 1)) := by
  rw [List.drop_eq_getElem_cons h, units_Sum.go]
  simp [List.getD_eq_getElem?_getD, List.getElem?_eq_getElem h]
theorem units_limits.calls (w : World) :
    Calls Try.prog 35 #[] w fun e w' => e = .returned (.agg #[.int .i64 0, .int .i64 1099511627776]) ∧ Below w.heap.size w w' := by
  go_enter Try.func35, Try.ntmps35
  go_wp2
  refine bodyPost_ret (v := .agg #[.int .i64 0, .int .i64 1099511627776]) (by simp [results, Try.results35, go_sem]) rfl ⟨rfl, by repeat (first | exact Below.refl _ _ | apply below_alloc)⟩
/-- What stands at a round's head: so much is summed up, so much is left. -/
def units_Sum.rel (w : World) (g : Nat) (r1 : Int) (r2 : Bool) (s : Int) (ls : List Int) (A : Option Addr) (c : Nat) (W : World) : Prop :=
  units_Sum.go s ls = some (r1, r2) ∧ 0 ≤ s ∧ s + ls.length * 1099511627776 ≤ 1099511627776000 ∧ ls.length ≤ c ∧ Kd.C (Kd.int .i64) W A ls.length ls ∧ Below w.heap.size w W ∧ W.heap[g]? = some (.cells #[.int .i64 0, .int .i64 1099511627776] 56 (0, 0))
set_option maxHeartbeats 16000000 in
set_option maxRecDepth 100000 in
theorem units_Sum.calls (A0 : Option Addr) (c0 : Nat) (l0 : List Int) (r1 : Int) (r2 : Bool) (w : World) (hr0 : Kd.C (Kd.int .i64) w A0 l0.length l0) (hc0 : l0.length ≤ c0) (h : units_Sum.f l0 = some (r1, r2)) :
    Calls Try.prog 29 #[.slice A0 l0.length c0] w fun e w' => e = .returned (.tuple #[.int .i64 r1, .bool r2]) ∧ Below w.heap.size w w' := by
  have HR := Aside0.mk hr0
  have HC := Aside0.mk hc0
  have HH := Aside0.mk h
  clear hr0 hc0 h
  by_cases c1 : 1000 < l0.length
  · have hd : decide ((1000 : Int) < (l0.length : Int)) = true := decide_eq_true (by omega)
    have H : units_Sum.f l0 = some (0, false) := by unfold units_Sum.f; rw [if_neg (by omega)]
    have H2 := HH.out
    rw [H] at H2
    simp only [Option.some.injEq, Prod.mk.injEq] at H2
    obtain ⟨rfl, rfl⟩ := H2
    clear H c1 HH
    go_enter Try.func29, Try.ntmps29
    go_wp2
    go_ret2
    exact ⟨rfl, by repeat (first | exact Below.refl _ _ | apply below_alloc | apply pw_below_drewN | apply below_drew1)⟩
  · have hd : decide ((1000 : Int) < (l0.length : Int)) = false := decide_eq_false (by omega)
    have H2 := HH.out
    rw [units_Sum.f_go l0 (by omega)] at H2
    have HL := Aside0.mk c1
    have HG := Aside0.mk H2
    clear H2 c1 HH
    go_enter Try.func29, Try.ntmps29
    go_wp2_with (go_at_call 35; refine (units_limits.calls _).mono ?_; rintro e w1 ⟨rfl, hb⟩; have B := Aside0.mk hb; clear hb)
    go_loopw [5, 6] (fun n rest wr => ∃ (s : Int) (ls : List Int) (A : Option Addr) (c : Nat), n = .int .i64 s ∧ rest = .slice A ls.length c ∧ Aside0 (units_Sum.rel w w1.heap.size r1 r2 s ls A c wr)) (fun _ rest _ => match rest with | .slice _ n _ => n | _ => 0)
    case atStart => exact ⟨0, l0, A0, c0, rfl, rfl, ⟨HG.out, by omega, by have := HL.out; omega, HC.out, Kd.C_alloc (Kd.C_below HR.out B.out) _, below_alloc B.out _, blk_new _ _⟩⟩
    case round =>
      clear HR HC HG HL B
      obtain ⟨s, ls, A, c, rfl, rfl, F⟩ := hrel
      by_cases c2 : 0 < ls.length
      · have d2 : decide (0 < ls.length) = true := decide_eq_true c2
        obtain ⟨k, hk⟩ : ∃ k : Nat, k = min 4 ls.length := ⟨_, rfl⟩
        have hmn : (if (ls.length : Int) < 4 then (ls.length : Int) else 4) = (k : Int) := by subst hk; split <;> omega
        have K1 := Aside0.mk (show 1 ≤ k ∧ k ≤ 4 ∧ k ≤ ls.length by omega)
        have hcut := cut_max (P := Try.prog) 26 3 .i64 .i64 Try.underlying26 (show Try.prog.info? 3 = some _ from rfl) A ls.length c (k : Int) (by omega) (by have := F.out.2.2.2.1; have := K1.out; omega)
        rw [Int.toNat_natCast] at hcut
        obtain ⟨ad, hA, _⟩ := Kd.at_int F.out.2.2.2.2.1 0 (by omega) (by omega)
        subst hA
        have z0 : wr.cell? ⟨w1.heap.size, 0, none⟩ = some (.int .i64 0) := (blk_cell F.out.2.2.2.2.2.2 0).trans rfl
        have z1 : wr.cell? ⟨w1.heap.size, 1, none⟩ = some (.int .i64 1099511627776) := (blk_cell F.out.2.2.2.2.2.2 1).trans rfl
        clear hk c2
        go_wp2
        go_loop [5, 26] (fun n i => ∃ (q : Nat) (s' : Int), n = .int .i64 s' ∧ i = .int .i64 q ∧ Aside0 (q ≤ k ∧ units_Sum.go s' (ls.drop q) = some (r1, r2) ∧ 0 ≤ s' ∧ s' + (ls.length - q) * 1099511627776 ≤ 1099511627776000)) (fun _ i => k - (intOf i).toNat)
        case atStart => exact ⟨0, s, rfl, rfl, ⟨by omega, F.out.1, F.out.2.1, by have := F.out.2.2.1; omega⟩⟩
        case round =>
          obtain ⟨q, s', rfl, rfl, G⟩ := hrel
          by_cases c3 : q < k
          · have e3 : decide (q < k) = true := decide_eq_true c3
            have hc := (Kd.at_int F.out.2.2.2.2.1 (q : Int) (by omega) (by have := K1.out; omega))
            obtain ⟨ad', ha, hc⟩ := hc
            obtain rfl : ad = ad' := Option.some.inj ha
            rw [Int.toNat_natCast] at hc
            have hg := units_Sum.drop_go ls q s' (by have := K1.out; omega)
            rw [G.out.2.1] at hg
            have hx : rd ls (q : Int) = ls.getD q 0 := by unfold rd; rw [Int.toNat_natCast]
            rw [hx] at hc
            generalize ls.getD q 0 = x at *
            have HX := Aside0.mk hg.symm
            clear hg hx ha
            have kq := K1.out
            by_cases c4 : x < 0
            · have e4 : decide (x < 0) = true := decide_eq_true c4
              have H2 := HX.out
              rw [if_pos (by unfold units_Sum.bad; rw [e4]; rfl)] at H2
              simp only [Option.some.injEq, Prod.mk.injEq] at H2
              obtain ⟨rfl, rfl⟩ := H2
              clear c4 kq
              go_wp2
              go_ret2
              exact ⟨rfl, by repeat (first | exact F.out.2.2.2.2.2.1 | apply below_alloc | apply pw_below_drewN | apply below_drew1)⟩
            · have e4 : decide (x < 0) = false := decide_eq_false c4
              by_cases c5 : 1099511627776 < x
              · have e5 : decide (1099511627776 < x) = true := decide_eq_true c5
                have H2 := HX.out
                rw [if_pos (by unfold units_Sum.bad; rw [e5, Bool.or_true])] at H2
                simp only [Option.some.injEq, Prod.mk.injEq] at H2
                obtain ⟨rfl, rfl⟩ := H2
                clear c4 c5 kq
                go_wp2
                go_ret2
                exact ⟨rfl, by repeat (first | exact F.out.2.2.2.2.2.1 | apply below_alloc | apply pw_below_drewN | apply below_drew1)⟩
              · have e5 : decide (1099511627776 < x) = false := decide_eq_false c5
                have H2 := HX.out
                rw [if_neg (by unfold units_Sum.bad; rw [e4, e5]; decide)] at H2
                have G2 := Aside0.mk (show q + 1 ≤ k ∧ units_Sum.go (s' + x) (ls.drop (q + 1)) = some (r1, r2) ∧ 0 ≤ s' + x ∧ s' + x + (ls.length - (q + 1 : Nat)) * 1099511627776 ≤ 1099511627776000 from ⟨by omega, H2, by have := G.out.2.2.1; omega, by have := G.out.2.2.2; omega⟩)
                have b1 : 0 ≤ s' := G.out.2.2.1
                have b2 : s' ≤ 1099511627776000 := by have := G.out.2.2.2; omega
                clear H2 HX G
                go_wp2
                go_round
                case rel => exact ⟨q + 1, s' + x, rfl, by go_num, G2⟩
                case measure => simp [intOf]; omega
          · have e3 : decide (q < k) = false := decide_eq_false c3
            have hqk : q = k := by have := G.out.1; omega
            subst hqk
            clear c3
            have D := Kd.C_drop (m := q) F.out.2.2.2.2.1 (by have := K1.out; omega) F.out.2.2.2.1
            have el : (ls.drop q).length = ls.length - q := List.length_drop
            have R2 := Aside0.mk (show units_Sum.rel w w1.heap.size r1 r2 s' (ls.drop q) (if c = q then some ad else some (ad.add q)) (c - q) wr from
              ⟨G.out.2.1, G.out.2.2.1, by rw [el]; have := G.out.2.2.2; have := K1.out; omega, by rw [el]; have := F.out.2.2.2.1; omega, by simpa [Kd.int, Kd.scalar] using D, F.out.2.2.2.2.2.1, F.out.2.2.2.2.2.2⟩)
            have EL := Aside0.mk el
            clear D el
            go_wp2
            exact ⟨⟨s', ls.drop q, _, _, rfl, by rw [EL.out], R2⟩, by show ls.length - q < ls.length; have := K1.out; omega⟩
      · have d2 : decide (0 < ls.length) = false := decide_eq_false c2
        have hn : ls = [] := List.eq_nil_of_length_eq_zero (by omega)
        have H2 := F.out.1
        rw [hn, units_Sum.go] at H2
        simp only [Option.some.injEq, Prod.mk.injEq] at H2
        obtain ⟨rfl, rfl⟩ := H2
        clear hn c2
        go_wp2
        go_ret2
        exact ⟨rfl, by repeat (first | exact F.out.2.2.2.2.2.1 | apply below_alloc | apply pw_below_drewN | apply below_drew1)⟩

/-! ### spring_Room: function 15 -/
def spring_Room.j0 : Nat → List (S33) → Int → Bool → Option (Bool)
  | 0, _, _, _ => none
  | k + 1, x0, x1, x17 => if x17 = true then (some false) else ((spring_each.f k x0).bind fun t116 => ((units_Sum.f t116).bind fun bt119 => (if bt119.2 = true then (some (decide (bt119.1 ≤ x1))) else (some false))))
def spring_Room.f (k : Nat) (l0 : List (S33)) (a1 : Int) : Option (Bool) := (spring_May.f k l0).bind fun t115 => (if t115 = true then (if a1 < 0 then (spring_Room.j0 k l0 a1 true) else (spring_Room.j0 k l0 a1 (decide (a1 > 1099511627776)))) else (spring_Room.j0 k l0 a1 true))
theorem spring_Room.mono_l : ∀ k, (∀ y0 y1 y2, LeO (spring_Room.j0 k y0 y1 y2) (spring_Room.j0 (k + 1) y0 y1 y2))
  | 0 => fun _ _ _ r h => by simp [spring_Room.j0] at h
  | k + 1 => by
    have ih0 := spring_Room.mono_l k
    · intro y0 y1 y2
      unfold spring_Room.j0
      repeat' first
      | (with_reducible exact ih0 _ _ _)
      | (with_reducible exact spring_May.mono _ _)
      | (with_reducible exact spring_each.mono _ _)
      | (with_reducible exact LeO.refl _)
      | (with_reducible exact LeO.none _)
      | (with_reducible refine LeO.ite ?_ ?_)
      | (with_reducible refine LeO.bind ?_ (fun _ => ?_))
      | exact ih0 _ _ _
      | exact spring_May.mono _ _
      | exact spring_each.mono _ _
      | exact LeO.none _
      | refine LeO.ite ?_ ?_
      | refine LeO.bind ?_ (fun _ => ?_)
theorem spring_Room.mono : ∀ a0 a1 k, LeO (spring_Room.f k a0 a1) (spring_Room.f (k + 1) a0 a1) := by
  intro a0 a1 k
  have ih0 := spring_Room.mono_l k
  unfold spring_Room.f
  repeat' first
      | (with_reducible exact ih0 _ _ _)
      | (with_reducible exact spring_May.mono _ _)
      | (with_reducible exact spring_each.mono _ _)
      | (with_reducible exact LeO.refl _)
      | (with_reducible exact LeO.none _)
      | (with_reducible refine LeO.ite ?_ ?_)
      | (with_reducible refine LeO.bind ?_ (fun _ => ?_))
      | exact ih0 _ _ _
      | exact spring_May.mono _ _
      | exact spring_each.mono _ _
      | exact LeO.none _
      | refine LeO.ite ?_ ?_
      | refine LeO.bind ?_ (fun _ => ?_)
set_option maxHeartbeats 8000000 in
set_option maxRecDepth 100000 in
theorem spring_Room.calls (k : Nat) (A0 : Option Addr) (c0 : Nat) (l0 : List (S33)) (a1 : Int) (r : Bool) (w : World) (hr0 : Kd.C k33 w A0 l0.length l0) (hc0 : l0.length ≤ c0) (h : spring_Room.f k l0 a1 = some r) :
    Calls Try.prog 15 #[.slice A0 l0.length c0, .int .i64 a1] w fun e w' => e = .returned (.bool r) ∧ Below w.heap.size w w' := by
  have HR0 := Aside0.mk hr0
  have HC0 := Aside0.mk hc0
  clear hr0 hc0
  have HB := Aside0.mk (Below.refl w.heap.size w)
  have H : ((spring_May.f k l0).bind fun t115 => (if t115 = true then (if a1 < 0 then (spring_Room.j0 k l0 a1 true) else (spring_Room.j0 k l0 a1 (decide (a1 > 1099511627776)))) else (spring_Room.j0 k l0 a1 true))) = some r := h
  clear h
  have HC3 := Aside0.mk H
  clear H
  go_enter Try.func15, Try.ntmps15
  go_upto_region 1 with (fail)
  go_cut [17] (fun v17 wc => ∃ (kq : Nat) (x17_2 : Bool), v17 = .bool x17_2 ∧ Aside0 (spring_Room.j0 kq l0 a1 x17_2 = some r) ∧ Aside0 (kq ≤ k) ∧ Aside0 (Below w.heap.size w wc))
  case first =>
    have H := HC3.out
    clear HC3
    replace H := Option.bind_eq_some_iff.mp H
    obtain ⟨t115, A40, H⟩ := H
    try dsimp only at H
    have A4 := Aside0.mk A40
    clear A40
    by_cases c5 : t115 = true
    · subst c5
      rw [if_pos rfl] at H
      by_cases c6 : a1 < 0
      · rw [if_pos c6] at H
        have c6b0 : decide (a1 < 0) = true := decide_eq_true c6
        clear c6
        (first | rw [c6b0] | (simp only [i64_w, i32_w]; rw [c6b0]) | skip)
        have H' := Aside0.mk H
        clear H
        go_wp2_with (first | ((with_reducible refine gate_callee (f := 13) rfl ?_); refine goesL_ (some 8) rfl rfl Try.func13 (by kernel_rfl) rfl #[.slice A0 l0.length c0] rfl (by (try simp only [List.map_toArray, List.map_cons, List.map_nil]); first | done | rfl | (simp only [List.length_drop, List.length_take]; rfl)) ?_; (with_reducible refine (spring_May.calls k _ _ l0 true _ ?side1 ?side2 A4.out).mono ?_); (case side1 => repeat (first | exact (Kd.C_below HR0.out HB.out) | (with_reducible refine Kd.C_alloc ?_ _) | (with_reducible refine Kd.C_drewN ?_ _) | (with_reducible refine Kd.C_drew ?_))); (case side2 => exact HC0.out); rintro e w7 ⟨rfl, hb⟩; refine ⟨_, rfl, ?_⟩; have n0_ := bs HB hb; clear HB; have HB := n0_; clear n0_; (try clear hb); (try clear hb2); (try clear hk); (try clear hi)))
        go_meet
        case rel => exact ⟨_, (true), (by first | rfl | (simp; done) | (simp [*]; done)), H', ⟨by first | omega | exact Nat.le_refl _⟩, ⟨by repeat (first | (with_reducible first | exact HB.out | apply below_alloc | apply pw_below_drewN | apply below_drew1) | exact HB.out)⟩⟩
      · rw [if_neg c6] at H
        have c6b0 : decide (a1 < 0) = false := decide_eq_false c6
        clear c6
        (first | rw [c6b0] | (simp only [i64_w, i32_w]; rw [c6b0]) | skip)
        have H' := Aside0.mk H
        clear H
        go_wp2_with (first | ((with_reducible refine gate_callee (f := 13) rfl ?_); refine goesL_ (some 8) rfl rfl Try.func13 (by kernel_rfl) rfl #[.slice A0 l0.length c0] rfl (by (try simp only [List.map_toArray, List.map_cons, List.map_nil]); first | done | rfl | (simp only [List.length_drop, List.length_take]; rfl)) ?_; (with_reducible refine (spring_May.calls k _ _ l0 true _ ?side1 ?side2 A4.out).mono ?_); (case side1 => repeat (first | exact (Kd.C_below HR0.out HB.out) | (with_reducible refine Kd.C_alloc ?_ _) | (with_reducible refine Kd.C_drewN ?_ _) | (with_reducible refine Kd.C_drew ?_))); (case side2 => exact HC0.out); rintro e w8 ⟨rfl, hb⟩; refine ⟨_, rfl, ?_⟩; have n0_ := bs HB hb; clear HB; have HB := n0_; clear n0_; (try clear hb); (try clear hb2); (try clear hk); (try clear hi)))
        go_meet
        case rel => exact ⟨_, (decide (a1 > 1099511627776)), (by first | rfl | (simp; done) | (simp [*]; done)), H', ⟨by first | omega | exact Nat.le_refl _⟩, ⟨by repeat (first | (with_reducible first | exact HB.out | apply below_alloc | apply pw_below_drewN | apply below_drew1) | exact HB.out)⟩⟩
    · replace c5 := Bool.eq_false_iff.mpr c5
      subst c5
      rw [if_neg (show ¬ (false = true) by decide)] at H
      have H' := Aside0.mk H
      clear H
      go_wp2_with (first | ((with_reducible refine gate_callee (f := 13) rfl ?_); refine goesL_ (some 8) rfl rfl Try.func13 (by kernel_rfl) rfl #[.slice A0 l0.length c0] rfl (by (try simp only [List.map_toArray, List.map_cons, List.map_nil]); first | done | rfl | (simp only [List.length_drop, List.length_take]; rfl)) ?_; (with_reducible refine (spring_May.calls k _ _ l0 false _ ?side1 ?side2 A4.out).mono ?_); (case side1 => repeat (first | exact (Kd.C_below HR0.out HB.out) | (with_reducible refine Kd.C_alloc ?_ _) | (with_reducible refine Kd.C_drewN ?_ _) | (with_reducible refine Kd.C_drew ?_))); (case side2 => exact HC0.out); rintro e w9 ⟨rfl, hb⟩; refine ⟨_, rfl, ?_⟩; have n0_ := bs HB hb; clear HB; have HB := n0_; clear n0_; (try clear hb); (try clear hb2); (try clear hk); (try clear hi)))
      go_meet
      case rel => exact ⟨_, (true), (by first | rfl | (simp; done) | (simp [*]; done)), H', ⟨by first | omega | exact Nat.le_refl _⟩, ⟨by repeat (first | (with_reducible first | exact HB.out | apply below_alloc | apply pw_below_drewN | apply below_drew1) | exact HB.out)⟩⟩
  case rest =>
    clear HC3
    try clear c1
    try clear p2
    try clear c5
    try clear c6
    try clear c6b0
    obtain ⟨kq, x17_2, rfl, HA, HJ2, HB⟩ := hcut
    cases kq with
    | zero => exact absurd HA.out (by simp [spring_Room.j0])
    | succ kj2 =>
      have H := HA.out
      clear HA
      simp only [spring_Room.j0] at H
      by_cases c10 : x17_2 = true
      · subst c10
        rw [if_pos rfl] at H
        obtain rfl := Option.some.inj H
        go_wp2
        go_ret
        exact ⟨by first | rfl | (simp [errW_none, errW_some] <;> rfl) | (simp [*, errW_none, errW_some] <;> rfl) | (exfalso; contradiction), by repeat (first | (with_reducible first | exact HB.out | apply below_alloc | apply pw_below_drewN | apply below_drew1) | exact HB.out)⟩
      · replace c10 := Bool.eq_false_iff.mpr c10
        subst c10
        rw [if_neg (show ¬ (false = true) by decide)] at H
        replace H := Option.bind_eq_some_iff.mp H
        obtain ⟨t116, A110, H⟩ := H
        try dsimp only at H
        have A11 := Aside0.mk A110
        clear A110
        replace H := Option.bind_eq_some_iff.mp H
        obtain ⟨⟨t119, t120⟩, A120, H⟩ := H
        try dsimp only at H
        have A12 := Aside0.mk A120
        clear A120
        by_cases c13 : t120 = true
        · subst c13
          rw [if_pos rfl] at H
          obtain rfl := Option.some.inj H
          go_wp2_with (first | (go_at_call 25; (with_reducible refine (spring_each.calls kj2 _ _ l0 t116 _ ?side1 ?side2 A11.out).mono ?_); (case side1 => repeat (first | exact (Kd.C_below HR0.out HB.out) | (with_reducible refine Kd.C_alloc ?_ _) | (with_reducible refine Kd.C_drewN ?_ _) | (with_reducible refine Kd.C_drew ?_))); (case side2 => exact HC0.out); rintro e w14 ⟨v117, rfl, ho0, hb⟩; have n0_ := Aside0.mk (Kd.R_lower ho0 (below_size (by repeat (first | (with_reducible first | exact HB.out | apply below_alloc | apply pw_below_drewN | apply below_drew1) | exact HB.out)))); have n1_ := bs HB hb; clear HB; have HO118 := n0_; have HB := n1_; clear n0_ n1_; (try clear hb); (try clear hb2); (try clear hk); (try clear hi); (try clear ho0); obtain ⟨Ao15, co15, eo15⟩ := Kd.R_slice HO118.out; subst eo15) | ((with_reducible refine gate_callee (f := 29) rfl ?_); refine goesL_ (some 21) rfl rfl Try.func29 (by kernel_rfl) rfl #[.slice Ao15 t116.length co15] rfl (by (try simp only [List.map_toArray, List.map_cons, List.map_nil]); first | done | rfl | (simp only [List.length_drop, List.length_take]; rfl)) ?_; (with_reducible refine (units_Sum.calls _ _ t116 t119 true _ ?side1 ?side2 A12.out).mono ?_); (case side1 => repeat (first | exact (Kd.R_reads' HO118.out).2.2 | (with_reducible refine Kd.C_alloc ?_ _) | (with_reducible refine Kd.C_drewN ?_ _) | (with_reducible refine Kd.C_drew ?_))); (case side2 => exact (Kd.R_reads' HO118.out).2.1); rintro e w16 ⟨rfl, hb⟩; refine ⟨_, rfl, ?_⟩; have n0_ := Aside0.mk (Kd.R_below (by (with_reducible repeat (first | apply Kd.R_alloc | apply Kd.R_drewN | apply Kd.R_drew)); exact HO118.out) hb); have n1_ := bs HB hb; clear HO118; clear HB; have HO118 := n0_; have HB := n1_; clear n0_ n1_; (try clear hb); (try clear hb2); (try clear hk); (try clear hi)))
          go_ret
          exact ⟨by first | rfl | (simp [errW_none, errW_some] <;> rfl) | (simp [*, errW_none, errW_some] <;> rfl) | (exfalso; contradiction), by repeat (first | (with_reducible first | exact HB.out | apply below_alloc | apply pw_below_drewN | apply below_drew1) | exact HB.out)⟩
        · replace c13 := Bool.eq_false_iff.mpr c13
          subst c13
          rw [if_neg (show ¬ (false = true) by decide)] at H
          obtain rfl := Option.some.inj H
          go_wp2_with (first | (go_at_call 25; (with_reducible refine (spring_each.calls kj2 _ _ l0 t116 _ ?side1 ?side2 A11.out).mono ?_); (case side1 => repeat (first | exact (Kd.C_below HR0.out HB.out) | (with_reducible refine Kd.C_alloc ?_ _) | (with_reducible refine Kd.C_drewN ?_ _) | (with_reducible refine Kd.C_drew ?_))); (case side2 => exact HC0.out); rintro e w17 ⟨v117, rfl, ho0, hb⟩; have n0_ := Aside0.mk (Kd.R_lower ho0 (below_size (by repeat (first | (with_reducible first | exact HB.out | apply below_alloc | apply pw_below_drewN | apply below_drew1) | exact HB.out)))); have n1_ := bs HB hb; clear HB; have HO118 := n0_; have HB := n1_; clear n0_ n1_; (try clear hb); (try clear hb2); (try clear hk); (try clear hi); (try clear ho0); obtain ⟨Ao18, co18, eo18⟩ := Kd.R_slice HO118.out; subst eo18) | ((with_reducible refine gate_callee (f := 29) rfl ?_); refine goesL_ (some 21) rfl rfl Try.func29 (by kernel_rfl) rfl #[.slice Ao18 t116.length co18] rfl (by (try simp only [List.map_toArray, List.map_cons, List.map_nil]); first | done | rfl | (simp only [List.length_drop, List.length_take]; rfl)) ?_; (with_reducible refine (units_Sum.calls _ _ t116 t119 false _ ?side1 ?side2 A12.out).mono ?_); (case side1 => repeat (first | exact (Kd.R_reads' HO118.out).2.2 | (with_reducible refine Kd.C_alloc ?_ _) | (with_reducible refine Kd.C_drewN ?_ _) | (with_reducible refine Kd.C_drew ?_))); (case side2 => exact (Kd.R_reads' HO118.out).2.1); rintro e w19 ⟨rfl, hb⟩; refine ⟨_, rfl, ?_⟩; have n0_ := Aside0.mk (Kd.R_below (by (with_reducible repeat (first | apply Kd.R_alloc | apply Kd.R_drewN | apply Kd.R_drew)); exact HO118.out) hb); have n1_ := bs HB hb; clear HO118; clear HB; have HO118 := n0_; have HB := n1_; clear n0_ n1_; (try clear hb); (try clear hb2); (try clear hk); (try clear hi)))
          go_ret
          exact ⟨by first | rfl | (simp [errW_none, errW_some] <;> rfl) | (simp [*, errW_none, errW_some] <;> rfl) | (exfalso; contradiction), by repeat (first | (with_reducible first | exact HB.out | apply below_alloc | apply pw_below_drewN | apply below_drew1) | exact HB.out)⟩

/-! ### spring_common: function 36 -/
def spring_common.l0 : Nat → Int → Int → Option (Int)
  | 0, _, _ => none
  | k + 1, x0, x1 => if x1 > 0 then (if x1 = 0 then (none) else (spring_common.l0 k x1 (Int.tmod x0 x1))) else (some x0)
def spring_common.f (k : Nat) (a0 : Int) (a1 : Int) : Option (Int) := spring_common.l0 k a0 a1
theorem spring_common.mono_l : ∀ k, (∀ y0 y1, LeO (spring_common.l0 k y0 y1) (spring_common.l0 (k + 1) y0 y1))
  | 0 => fun _ _ r h => by simp [spring_common.l0] at h
  | k + 1 => by
    have ih0 := spring_common.mono_l k
    · intro y0 y1
      unfold spring_common.l0
      repeat' first
      | (with_reducible exact ih0 _ _)
      | (with_reducible exact LeO.refl _)
      | (with_reducible exact LeO.none _)
      | (with_reducible refine LeO.ite ?_ ?_)
      | (with_reducible refine LeO.bind ?_ (fun _ => ?_))
      | exact ih0 _ _
      | exact LeO.none _
      | refine LeO.ite ?_ ?_
      | refine LeO.bind ?_ (fun _ => ?_)
theorem spring_common.mono : ∀ a0 a1 k, LeO (spring_common.f k a0 a1) (spring_common.f (k + 1) a0 a1) := by
  intro a0 a1 k
  have ih0 := spring_common.mono_l k
  unfold spring_common.f
  repeat' first
      | (with_reducible exact ih0 _ _)
      | (with_reducible exact LeO.refl _)
      | (with_reducible exact LeO.none _)
      | (with_reducible refine LeO.ite ?_ ?_)
      | (with_reducible refine LeO.bind ?_ (fun _ => ?_))
      | exact ih0 _ _
      | exact LeO.none _
      | refine LeO.ite ?_ ?_
      | refine LeO.bind ?_ (fun _ => ?_)
set_option maxHeartbeats 8000000 in
set_option maxRecDepth 100000 in
theorem spring_common.calls (k : Nat) (a0 : Int) (a1 : Int) (r : Int) (w : World) (h : spring_common.f k a0 a1 = some r) :
    Calls Try.prog 36 #[.int .i64 a0, .int .i64 a1] w fun e w' => e = .returned (.int .i64 r) ∧ Drawn0 w w' := by
  have H : (spring_common.l0 k a0 a1) = some r := h
  clear h
  have H' := Aside0.mk H
  clear H
  go_enter Try.func36, Try.ntmps36
  go_wp2
  repeat (go_quiet (fail); try go_wp2)
  go_loopg [0, 1] k (fun kq v0 v1 w' => ∃ (x0_1 : Int) (x1_1 : Int), v0 = .int .i64 x0_1 ∧ v1 = .int .i64 x1_1 ∧ Aside0 (spring_common.l0 kq x0_1 x1_1 = some r) ∧ Aside0 (kq ≤ k) ∧ Drawn0 w w')
  case atStart => exact ⟨(a0), (a1), (by first | rfl | (simp; done) | (simp [*]; done)), (by first | rfl | (simp; done) | (simp [*]; done)), H', ⟨Nat.le_refl _⟩, by repeat (first | exact Drawn0.refl _ | apply Drawn0.step)⟩
  case round =>
    clear H'
    try clear p2
    obtain ⟨x0_1, x1_1, rfl, rfl, HA, HK1, ⟨m1, rfl⟩⟩ := hrel
    cases gk with
    | zero => exact absurd HA.out (by simp [spring_common.l0])
    | succ k1 =>
      have H := HA.out
      clear HA
      simp only [spring_common.l0] at H
      by_cases c3 : x1_1 > 0
      · rw [if_pos c3] at H
        have c3b0 : decide (0 < x1_1) = true := decide_eq_true c3
        clear c3
        by_cases c4 : x1_1 = 0
        · rw [if_pos c4] at H
          exact absurd H (by simp)
        · rw [if_neg c4] at H
          have c4b0 : (x1_1 == 0) = false := beq_eq_false_iff_ne.mpr c4
          have c4b1 : (x1_1 != 0) = true := bne_iff_ne.mpr c4
          have H' := Aside0.mk H
          clear H
          go_wp2
          repeat (go_quiet (fail); try go_wp2)
          go_roundg k1
          case measure => have := HK1.out; omega
          case rel => exact ⟨(x1_1), (Int.tmod x0_1 x1_1), (by first | rfl | (simp; done) | (simp [*]; done)), (by first | rfl | (simp; done) | (simp [*]; done)), H', ⟨by have := HK1.out; omega⟩, by repeat (first | exact Drawn0.refl _ | apply Drawn0.step)⟩
      · rw [if_neg c3] at H
        have c3b0 : decide (0 < x1_1) = false := decide_eq_false c3
        clear c3
        obtain rfl := Option.some.inj H
        go_wp2
        repeat (go_quiet (fail); try go_wp2)
        go_ret
        exact ⟨by first | rfl | (simp; done) | (simp [*]; done) | (exfalso; contradiction), by repeat (first | exact Drawn0.refl _ | apply Drawn0.step)⟩

end Go.Proofs.Ytencdmcidhojgaa.P
