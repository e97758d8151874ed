-- Written by a program of this session (hprint.py), out of the translation; functions that the print does not take are given by hand.
import Derived.Test.YtkcpkglplhgjfaaPx0
namespace Go.Proofs.Ytkcpkglplhgjfaa.P
open Go.RowKit Go.Proofs.YtkcpkglplhgjfaaM Go.Proofs.YtkcpkglplhgjfaaW.PrintWords Go.Proofs.YtkcpkglplhgjfaaW.PrintLast Go.Proofs.YtkcpkglplhgjfaaW.PrintMore
attribute [local go_sem] max2_int min2_int max_two min_two max_three min_three max_four min_four   -- for this text's walks alone
set_option linter.unusedVariables false
set_option linter.unusedSimpArgs false

-- NOT PRINTED: function 21 (units_limits)

/-! ### units_Sum: function 9 -/
def units_Sum.bad (x : Int) : Bool := decide (x < 0) || decide (1099511627776 < x)
def units_Sum.f (l0 : List Int) : Option (Int × Bool) := if l0.length ≤ 1000 ∧ l0.any units_Sum.bad = false then some (l0.sum, true) else some (0, false)
def units_Sum.go (s : Int) : List Int → Option (Int × Bool)
  | [] => some (s, true)
  | x :: t => if units_Sum.bad x = true then some (0, false) else units_Sum.go (s + x) t
theorem units_Sum.go_eq : ∀ (l : List Int) (s : Int), units_Sum.go s l = if l.any units_Sum.bad = false then some (s + l.sum, true) else some (0, false)
  | [], s => by simp [units_Sum.go]
  | x :: t, s => by
    rw [units_Sum.go, units_Sum.go_eq t (s + x)]
    cases h : units_Sum.bad x with
    | true => simp [h]
    | false => simp [h, Int.add_assoc]
theorem units_Sum.f_go (l : List Int) (h : l.length ≤ 1000) : units_Sum.f l = units_Sum.go 0 l := by
  rw [units_Sum.go_eq]
  unfold units_Sum.f
  simp [h]
theorem units_Sum.drop_go (l : List Int) (i : Nat) (s : Int) (h : i < l.length) : units_Sum.go s (l.drop i) = if units_Sum.bad (l.getD i 0) = true then some (0, false) else units_Sum.go (s + l.getD i 0) (l.drop (i + 1)) := by
  rw [List.drop_eq_getElem_cons h, units_Sum.go]
  simp [List.getD_eq_getElem?_getD, List.getElem?_eq_getElem h]
theorem units_limits.calls (w : World) :
    Calls Try.prog 21 #[] w fun e w' => e = .returned (.agg #[.int .i64 0, .int .i64 1099511627776]) ∧ Below w.heap.size w w' := by
  go_enter Try.func21, Try.ntmps21
  go_wp2
  refine bodyPost_ret (v := .agg #[.int .i64 0, .int .i64 1099511627776]) (by simp [results, Try.results21, go_sem]) rfl ⟨rfl, by repeat (first | exact Below.refl _ _ | apply below_alloc)⟩
/-- What stands at a round's head: so much is summed up, so much is left. -/
def units_Sum.rel (w : World) (g : Nat) (r1 : Int) (r2 : Bool) (s : Int) (ls : List Int) (A : Option Addr) (c : Nat) (W : World) : Prop :=
  units_Sum.go s ls = some (r1, r2) ∧ 0 ≤ s ∧ s + ls.length * 1099511627776 ≤ 1099511627776000 ∧ ls.length ≤ c ∧ Kd.C (Kd.int .i64) W A ls.length ls ∧ Below w.heap.size w W ∧ W.heap[g]? = some (.cells #[.int .i64 0, .int .i64 1099511627776] 38 (0, 0))
set_option maxHeartbeats 16000000 in
set_option maxRecDepth 100000 in
theorem units_Sum.calls (A0 : Option Addr) (c0 : Nat) (l0 : List Int) (r1 : Int) (r2 : Bool) (w : World) (hr0 : Kd.C (Kd.int .i64) w A0 l0.length l0) (hc0 : l0.length ≤ c0) (h : units_Sum.f l0 = some (r1, r2)) :
    Calls Try.prog 9 #[.slice A0 l0.length c0] w fun e w' => e = .returned (.tuple #[.int .i64 r1, .bool r2]) ∧ Below w.heap.size w w' := by
  have HR := Aside0.mk hr0
  have HC := Aside0.mk hc0
  have HH := Aside0.mk h
  clear hr0 hc0 h
  by_cases c1 : 1000 < l0.length
  · have hd : decide ((1000 : Int) < (l0.length : Int)) = true := decide_eq_true (by omega)
    have H : units_Sum.f l0 = some (0, false) := by unfold units_Sum.f; rw [if_neg (by omega)]
    have H2 := HH.out
    rw [H] at H2
    simp only [Option.some.injEq, Prod.mk.injEq] at H2
    obtain ⟨rfl, rfl⟩ := H2
    clear H c1 HH
    go_enter Try.func9, Try.ntmps9
    go_wp2
    go_ret2
    exact ⟨rfl, by repeat (first | exact Below.refl _ _ | apply below_alloc | apply pw_below_drewN | apply below_drew1)⟩
  · have hd : decide ((1000 : Int) < (l0.length : Int)) = false := decide_eq_false (by omega)
    have H2 := HH.out
    rw [units_Sum.f_go l0 (by omega)] at H2
    have HL := Aside0.mk c1
    have HG := Aside0.mk H2
    clear H2 c1 HH
    go_enter Try.func9, Try.ntmps9
    go_wp2_with (go_at_call 21; refine (units_limits.calls _).mono ?_; rintro e w1 ⟨rfl, hb⟩; have B := Aside0.mk hb; clear hb)
    go_loopw [5, 6] (fun n rest wr => ∃ (s : Int) (ls : List Int) (A : Option Addr) (c : Nat), n = .int .i64 s ∧ rest = .slice A ls.length c ∧ Aside0 (units_Sum.rel w w1.heap.size r1 r2 s ls A c wr)) (fun _ rest _ => match rest with | .slice _ n _ => n | _ => 0)
    case atStart => exact ⟨0, l0, A0, c0, rfl, rfl, ⟨HG.out, by omega, by have := HL.out; omega, HC.out, Kd.C_alloc (Kd.C_below HR.out B.out) _, below_alloc B.out _, blk_new _ _⟩⟩
    case round =>
      clear HR HC HG HL B
      obtain ⟨s, ls, A, c, rfl, rfl, F⟩ := hrel
      by_cases c2 : 0 < ls.length
      · have d2 : decide (0 < ls.length) = true := decide_eq_true c2
        obtain ⟨k, hk⟩ : ∃ k : Nat, k = min 4 ls.length := ⟨_, rfl⟩
        have hmn : (if (ls.length : Int) < 4 then (ls.length : Int) else 4) = (k : Int) := by subst hk; split <;> omega
        have K1 := Aside0.mk (show 1 ≤ k ∧ k ≤ 4 ∧ k ≤ ls.length by omega)
        have hcut := cut_max (P := Try.prog) 24 3 .i64 .i64 Try.underlying24 (show Try.prog.info? 3 = some _ from rfl) A ls.length c (k : Int) (by omega) (by have := F.out.2.2.2.1; have := K1.out; omega)
        rw [Int.toNat_natCast] at hcut
        obtain ⟨ad, hA, _⟩ := Kd.at_int F.out.2.2.2.2.1 0 (by omega) (by omega)
        subst hA
        have z0 : wr.cell? ⟨w1.heap.size, 0, none⟩ = some (.int .i64 0) := (blk_cell F.out.2.2.2.2.2.2 0).trans rfl
        have z1 : wr.cell? ⟨w1.heap.size, 1, none⟩ = some (.int .i64 1099511627776) := (blk_cell F.out.2.2.2.2.2.2 1).trans rfl
        clear hk c2
        go_wp2
        go_loop [5, 26] (fun n i => ∃ (q : Nat) (s' : Int), n = .int .i64 s' ∧ i = .int .i64 q ∧ Aside0 (q ≤ k ∧ units_Sum.go s' (ls.drop q) = some (r1, r2) ∧ 0 ≤ s' ∧ s' + (ls.length - q) * 1099511627776 ≤ 1099511627776000)) (fun _ i => k - (intOf i).toNat)
        case atStart => exact ⟨0, s, rfl, rfl, ⟨by omega, F.out.1, F.out.2.1, by have := F.out.2.2.1; omega⟩⟩
        case round =>
          obtain ⟨q, s', rfl, rfl, G⟩ := hrel
          by_cases c3 : q < k
          · have e3 : decide (q < k) = true := decide_eq_true c3
            have hc := (Kd.at_int F.out.2.2.2.2.1 (q : Int) (by omega) (by have := K1.out; omega))
            obtain ⟨ad', ha, hc⟩ := hc
            obtain rfl : ad = ad' := Option.some.inj ha
            rw [Int.toNat_natCast] at hc
            have hg := units_Sum.drop_go ls q s' (by have := K1.out; omega)
            rw [G.out.2.1] at hg
            have hx : rd ls (q : Int) = ls.getD q 0 := by unfold rd; rw [Int.toNat_natCast]
            rw [hx] at hc
            generalize ls.getD q 0 = x at *
            have HX := Aside0.mk hg.symm
            clear hg hx ha
            have kq := K1.out
            by_cases c4 : x < 0
            · have e4 : decide (x < 0) = true := decide_eq_true c4
              have H2 := HX.out
              rw [if_pos (by unfold units_Sum.bad; rw [e4]; rfl)] at H2
              simp only [Option.some.injEq, Prod.mk.injEq] at H2
              obtain ⟨rfl, rfl⟩ := H2
              clear c4 kq
              go_wp2
              go_ret2
              exact ⟨rfl, by repeat (first | exact F.out.2.2.2.2.2.1 | apply below_alloc | apply pw_below_drewN | apply below_drew1)⟩
            · have e4 : decide (x < 0) = false := decide_eq_false c4
              by_cases c5 : 1099511627776 < x
              · have e5 : decide (1099511627776 < x) = true := decide_eq_true c5
                have H2 := HX.out
                rw [if_pos (by unfold units_Sum.bad; rw [e5, Bool.or_true])] at H2
                simp only [Option.some.injEq, Prod.mk.injEq] at H2
                obtain ⟨rfl, rfl⟩ := H2
                clear c4 c5 kq
                go_wp2
                go_ret2
                exact ⟨rfl, by repeat (first | exact F.out.2.2.2.2.2.1 | apply below_alloc | apply pw_below_drewN | apply below_drew1)⟩
              · have e5 : decide (1099511627776 < x) = false := decide_eq_false c5
                have H2 := HX.out
                rw [if_neg (by unfold units_Sum.bad; rw [e4, e5]; decide)] at H2
                have G2 := Aside0.mk (show q + 1 ≤ k ∧ units_Sum.go (s' + x) (ls.drop (q + 1)) = some (r1, r2) ∧ 0 ≤ s' + x ∧ s' + x + (ls.length - (q + 1 : Nat)) * 1099511627776 ≤ 1099511627776000 from ⟨by omega, H2, by have := G.out.2.2.1; omega, by have := G.out.2.2.2; omega⟩)
                have b1 : 0 ≤ s' := G.out.2.2.1
                have b2 : s' ≤ 1099511627776000 := by have := G.out.2.2.2; omega
                clear H2 HX G
                go_wp2
                go_round
                case rel => exact ⟨q + 1, s' + x, rfl, by go_num, G2⟩
                case measure => simp [intOf]; omega
          · have e3 : decide (q < k) = false := decide_eq_false c3
            have hqk : q = k := by have := G.out.1; omega
            subst hqk
            clear c3
            have D := Kd.C_drop (m := q) F.out.2.2.2.2.1 (by have := K1.out; omega) F.out.2.2.2.1
            have el : (ls.drop q).length = ls.length - q := List.length_drop
            have R2 := Aside0.mk (show units_Sum.rel w w1.heap.size r1 r2 s' (ls.drop q) (if c = q then some ad else some (ad.add q)) (c - q) wr from
              ⟨G.out.2.1, G.out.2.2.1, by rw [el]; have := G.out.2.2.2; have := K1.out; omega, by rw [el]; have := F.out.2.2.2.1; omega, by simpa [Kd.int, Kd.scalar] using D, F.out.2.2.2.2.2.1, F.out.2.2.2.2.2.2⟩)
            have EL := Aside0.mk el
            clear D el
            go_wp2
            exact ⟨⟨s', ls.drop q, _, _, rfl, by rw [EL.out], R2⟩, by show ls.length - q < ls.length; have := K1.out; omega⟩
      · have d2 : decide (0 < ls.length) = false := decide_eq_false c2
        have hn : ls = [] := List.eq_nil_of_length_eq_zero (by omega)
        have H2 := F.out.1
        rw [hn, units_Sum.go] at H2
        simp only [Option.some.injEq, Prod.mk.injEq] at H2
        obtain ⟨rfl, rfl⟩ := H2
        clear hn c2
        go_wp2
        go_ret2
        exact ⟨rfl, by repeat (first | exact F.out.2.2.2.2.2.1 | apply below_alloc | apply pw_below_drewN | apply below_drew1)⟩

-- NOT PRINTED: function 30 (spec_to)

/-! ### spec_parts: function 24 -/
set_option maxHeartbeats 8000000 in
set_option maxRecDepth 100000 in
theorem spec_to.calls (n : Int) (w : World) :
    Calls Try.prog 30 #[.int .i64 n] w fun e w' => ∃ b : Nat, e = .returned (.func (.func 40) #[] #[.pointer (some ⟨b, 0, none⟩)]) ∧ Below w.heap.size w w' ∧ w.heap.size ≤ b ∧ w'.heap[b]? = some (.cells #[.int .i64 n] 3 (0, 0)) := by
  have hmf : ∀ (fn : Fn) (first cap : Array Value) (w : World), (Instr.makeFunc fn first cap).run Try.prog w = .ok (.func fn first cap) w := fun _ _ _ _ => rfl
  go_enter Try.func30, Try.ntmps30
  go_wp2
  go_ret
  exact ⟨w.heap.size, rfl, below_alloc (Below.refl _ _) _, Nat.le_refl _, blk_new _ _⟩
set_option maxHeartbeats 8000000 in
set_option maxRecDepth 100000 in
theorem spec_parts.calls (w : World) :
    Calls Try.prog 24 #[] w fun e w' => ∃ (AV : Value) (b1 b2 b3 b4 b5 b6 b7 b8 b9 : Nat), e = .returned AV ∧ ((∀ W, (Instr.index 44 AV (.int .i64 0)).run Try.prog W = .ok (.agg #[.func (.func 29) #[] #[], .func (.func 40) #[] #[.pointer (some ⟨b1, 0, none⟩)], .func (.func 40) #[] #[.pointer (some ⟨b2, 0, none⟩)]]) W) ∧ (∀ W, (Instr.index 44 AV (.int .i64 1)).run Try.prog W = .ok (.agg #[.func (.func 31) #[] #[], .func (.func 32) #[] #[], .func (.func 33) #[] #[]]) W) ∧ (∀ W, (Instr.index 44 AV (.int .i64 2)).run Try.prog W = .ok (.agg #[.func (.func 34) #[] #[], .func (.func 40) #[] #[.pointer (some ⟨b3, 0, none⟩)], .func (.func 40) #[] #[.pointer (some ⟨b4, 0, none⟩)]]) W) ∧ (∀ W, (Instr.index 44 AV (.int .i64 3)).run Try.prog W = .ok (.agg #[.func (.func 35) #[] #[], .func (.func 40) #[] #[.pointer (some ⟨b5, 0, none⟩)], .func (.func 36) #[] #[]]) W) ∧ (∀ W, (Instr.index 44 AV (.int .i64 4)).run Try.prog W = .ok (.agg #[.func (.func 37) #[] #[], .func (.func 40) #[] #[.pointer (some ⟨b6, 0, none⟩)], .func (.func 40) #[] #[.pointer (some ⟨b7, 0, none⟩)]]) W) ∧ (∀ W, (Instr.index 44 AV (.int .i64 5)).run Try.prog W = .ok (.agg #[.func (.func 38) #[] #[], .func (.func 40) #[] #[.pointer (some ⟨b8, 0, none⟩)], .func (.func 40) #[] #[.pointer (some ⟨b9, 0, none⟩)]]) W)) ∧ Below w.heap.size w w' ∧ w'.heap[b1]? = some (.cells #[.int .i64 1] 3 (0, 0)) ∧ w'.heap[b2]? = some (.cells #[.int .i64 6] 3 (0, 0)) ∧ w'.heap[b3]? = some (.cells #[.int .i64 1] 3 (0, 0)) ∧ w'.heap[b4]? = some (.cells #[.int .i64 48] 3 (0, 0)) ∧ w'.heap[b5]? = some (.cells #[.int .i64 1] 3 (0, 0)) ∧ w'.heap[b6]? = some (.cells #[.int .i64 1] 3 (0, 0)) ∧ w'.heap[b7]? = some (.cells #[.int .i64 6] 3 (0, 0)) ∧ w'.heap[b8]? = some (.cells #[.int .i64 0] 3 (0, 0)) ∧ w'.heap[b9]? = some (.cells #[.int .i64 8] 3 (0, 0)) := by
  have hu := Try.underlying43
  go_enter Try.func24, Try.ntmps24
  have B0 := Aside0.mk (below_alloc (Below.refl w.heap.size w) (.cells (#[.nilFunc, .nilFunc, .nilFunc, .nilFunc, .nilFunc, .nilFunc, .nilFunc, .nilFunc, .nilFunc, .nilFunc, .nilFunc, .nilFunc, .nilFunc, .nilFunc, .nilFunc, .nilFunc, .nilFunc, .nilFunc] : Array Value) 44))
  have C0 := Aside0.mk (blk_new w (.cells (#[.nilFunc, .nilFunc, .nilFunc, .nilFunc, .nilFunc, .nilFunc, .nilFunc, .nilFunc, .nilFunc, .nilFunc, .nilFunc, .nilFunc, .nilFunc, .nilFunc, .nilFunc, .nilFunc, .nilFunc, .nilFunc] : Array Value) 44))
  have S0 := Aside0.mk (show w.heap.size < (w.alloc (.cells (#[.nilFunc, .nilFunc, .nilFunc, .nilFunc, .nilFunc, .nilFunc, .nilFunc, .nilFunc, .nilFunc, .nilFunc, .nilFunc, .nilFunc, .nilFunc, .nilFunc, .nilFunc, .nilFunc, .nilFunc, .nilFunc] : Array Value) 44)).heap.size by rw [World.size_alloc]; omega)
  go_wp2_with fail
  refine (spec_to.calls 1 _).mono ?_
  rintro e w1 ⟨b1, rfl, hb, hge, hc⟩
  have D1 := Aside0.mk hc
  have G1 := Aside0.mk (Nat.lt_of_lt_of_le S0.out hge)
  have B1 := Aside0.mk (below_trans B0.out hb)
  have C1 := Aside0.mk (blk_below C0.out hb)
  have S1 := Aside0.mk (Nat.lt_of_lt_of_le S0.out hb.size)
  clear hb hge hc B0 C0 S0
  go_wp2_with fail
  refine (spec_to.calls 6 _).mono ?_
  rintro e w2 ⟨b2, rfl, hb, hge, hc⟩
  have D2 := Aside0.mk hc
  have G2 := Aside0.mk (Nat.lt_of_lt_of_le S1.out hge)
  have B2 := Aside0.mk (below_trans B1.out hb)
  have C2 := Aside0.mk (blk_below C1.out hb)
  have S2 := Aside0.mk (Nat.lt_of_lt_of_le S1.out hb.size)
  replace D1 := Aside0.mk (blk_below D1.out hb)
  clear hb hge hc B1 C1 S1
  go_wp2_with fail
  refine (spec_to.calls 1 _).mono ?_
  rintro e w3 ⟨b3, rfl, hb, hge, hc⟩
  have D3 := Aside0.mk hc
  have G3 := Aside0.mk (Nat.lt_of_lt_of_le S2.out hge)
  have B3 := Aside0.mk (below_trans B2.out hb)
  have C3 := Aside0.mk (blk_below C2.out hb)
  have S3 := Aside0.mk (Nat.lt_of_lt_of_le S2.out hb.size)
  replace D1 := Aside0.mk (blk_below D1.out hb)
  replace D2 := Aside0.mk (blk_below D2.out hb)
  clear hb hge hc B2 C2 S2
  go_wp2_with fail
  refine (spec_to.calls 48 _).mono ?_
  rintro e w4 ⟨b4, rfl, hb, hge, hc⟩
  have D4 := Aside0.mk hc
  have G4 := Aside0.mk (Nat.lt_of_lt_of_le S3.out hge)
  have B4 := Aside0.mk (below_trans B3.out hb)
  have C4 := Aside0.mk (blk_below C3.out hb)
  have S4 := Aside0.mk (Nat.lt_of_lt_of_le S3.out hb.size)
  replace D1 := Aside0.mk (blk_below D1.out hb)
  replace D2 := Aside0.mk (blk_below D2.out hb)
  replace D3 := Aside0.mk (blk_below D3.out hb)
  clear hb hge hc B3 C3 S3
  go_wp2_with fail
  refine (spec_to.calls 1 _).mono ?_
  rintro e w5 ⟨b5, rfl, hb, hge, hc⟩
  have D5 := Aside0.mk hc
  have G5 := Aside0.mk (Nat.lt_of_lt_of_le S4.out hge)
  have B5 := Aside0.mk (below_trans B4.out hb)
  have C5 := Aside0.mk (blk_below C4.out hb)
  have S5 := Aside0.mk (Nat.lt_of_lt_of_le S4.out hb.size)
  replace D1 := Aside0.mk (blk_below D1.out hb)
  replace D2 := Aside0.mk (blk_below D2.out hb)
  replace D3 := Aside0.mk (blk_below D3.out hb)
  replace D4 := Aside0.mk (blk_below D4.out hb)
  clear hb hge hc B4 C4 S4
  go_wp2_with fail
  refine (spec_to.calls 1 _).mono ?_
  rintro e w6 ⟨b6, rfl, hb, hge, hc⟩
  have D6 := Aside0.mk hc
  have G6 := Aside0.mk (Nat.lt_of_lt_of_le S5.out hge)
  have B6 := Aside0.mk (below_trans B5.out hb)
  have C6 := Aside0.mk (blk_below C5.out hb)
  have S6 := Aside0.mk (Nat.lt_of_lt_of_le S5.out hb.size)
  replace D1 := Aside0.mk (blk_below D1.out hb)
  replace D2 := Aside0.mk (blk_below D2.out hb)
  replace D3 := Aside0.mk (blk_below D3.out hb)
  replace D4 := Aside0.mk (blk_below D4.out hb)
  replace D5 := Aside0.mk (blk_below D5.out hb)
  clear hb hge hc B5 C5 S5
  go_wp2_with fail
  refine (spec_to.calls 6 _).mono ?_
  rintro e w7 ⟨b7, rfl, hb, hge, hc⟩
  have D7 := Aside0.mk hc
  have G7 := Aside0.mk (Nat.lt_of_lt_of_le S6.out hge)
  have B7 := Aside0.mk (below_trans B6.out hb)
  have C7 := Aside0.mk (blk_below C6.out hb)
  have S7 := Aside0.mk (Nat.lt_of_lt_of_le S6.out hb.size)
  replace D1 := Aside0.mk (blk_below D1.out hb)
  replace D2 := Aside0.mk (blk_below D2.out hb)
  replace D3 := Aside0.mk (blk_below D3.out hb)
  replace D4 := Aside0.mk (blk_below D4.out hb)
  replace D5 := Aside0.mk (blk_below D5.out hb)
  replace D6 := Aside0.mk (blk_below D6.out hb)
  clear hb hge hc B6 C6 S6
  go_wp2_with fail
  refine (spec_to.calls 0 _).mono ?_
  rintro e w8 ⟨b8, rfl, hb, hge, hc⟩
  have D8 := Aside0.mk hc
  have G8 := Aside0.mk (Nat.lt_of_lt_of_le S7.out hge)
  have B8 := Aside0.mk (below_trans B7.out hb)
  have C8 := Aside0.mk (blk_below C7.out hb)
  have S8 := Aside0.mk (Nat.lt_of_lt_of_le S7.out hb.size)
  replace D1 := Aside0.mk (blk_below D1.out hb)
  replace D2 := Aside0.mk (blk_below D2.out hb)
  replace D3 := Aside0.mk (blk_below D3.out hb)
  replace D4 := Aside0.mk (blk_below D4.out hb)
  replace D5 := Aside0.mk (blk_below D5.out hb)
  replace D6 := Aside0.mk (blk_below D6.out hb)
  replace D7 := Aside0.mk (blk_below D7.out hb)
  clear hb hge hc B7 C7 S7
  go_wp2_with fail
  refine (spec_to.calls 8 _).mono ?_
  rintro e w9 ⟨b9, rfl, hb, hge, hc⟩
  have D9 := Aside0.mk hc
  have G9 := Aside0.mk (Nat.lt_of_lt_of_le S8.out hge)
  have B9 := Aside0.mk (below_trans B8.out hb)
  have C9 := Aside0.mk (blk_below C8.out hb)
  have S9 := Aside0.mk (Nat.lt_of_lt_of_le S8.out hb.size)
  replace D1 := Aside0.mk (blk_below D1.out hb)
  replace D2 := Aside0.mk (blk_below D2.out hb)
  replace D3 := Aside0.mk (blk_below D3.out hb)
  replace D4 := Aside0.mk (blk_below D4.out hb)
  replace D5 := Aside0.mk (blk_below D5.out hb)
  replace D6 := Aside0.mk (blk_below D6.out hb)
  replace D7 := Aside0.mk (blk_below D7.out hb)
  replace D8 := Aside0.mk (blk_below D8.out hb)
  clear hb hge hc B8 C8 S8
  have H1 : (#[.func (.func 29) #[] #[], .func (.func 40) #[] #[.pointer (some ⟨b1, 0, none⟩)], .func (.func 40) #[] #[.pointer (some ⟨b2, 0, none⟩)], .func (.func 31) #[] #[], .func (.func 32) #[] #[], .func (.func 33) #[] #[], .func (.func 34) #[] #[], .func (.func 40) #[] #[.pointer (some ⟨b3, 0, none⟩)], .func (.func 40) #[] #[.pointer (some ⟨b4, 0, none⟩)], .func (.func 35) #[] #[], .func (.func 40) #[] #[.pointer (some ⟨b5, 0, none⟩)], .func (.func 36) #[] #[], .func (.func 37) #[] #[], .func (.func 40) #[] #[.pointer (some ⟨b6, 0, none⟩)], .func (.func 40) #[] #[.pointer (some ⟨b7, 0, none⟩)], .func (.func 38) #[] #[], .func (.func 40) #[] #[.pointer (some ⟨b8, 0, none⟩)], .func (.func 40) #[] #[.pointer (some ⟨b9, 0, none⟩)]] : Array Value).all (·.oneCell') = true := by simp [Value.oneCell']
  go_wp2_with (refine wpList_store_row rfl 44 _ _ rfl w.heap.size #[.func (.func 29) #[] #[], .func (.func 40) #[] #[.pointer (some ⟨b1, 0, none⟩)], .func (.func 40) #[] #[.pointer (some ⟨b2, 0, none⟩)], .func (.func 31) #[] #[], .func (.func 32) #[] #[], .func (.func 33) #[] #[], .func (.func 34) #[] #[], .func (.func 40) #[] #[.pointer (some ⟨b3, 0, none⟩)], .func (.func 40) #[] #[.pointer (some ⟨b4, 0, none⟩)], .func (.func 35) #[] #[], .func (.func 40) #[] #[.pointer (some ⟨b5, 0, none⟩)], .func (.func 36) #[] #[], .func (.func 37) #[] #[], .func (.func 40) #[] #[.pointer (some ⟨b6, 0, none⟩)], .func (.func 40) #[] #[.pointer (some ⟨b7, 0, none⟩)], .func (.func 38) #[] #[], .func (.func 40) #[] #[.pointer (some ⟨b8, 0, none⟩)], .func (.func 40) #[] #[.pointer (some ⟨b9, 0, none⟩)]] rfl rfl 44 _ C9.out (by kernel_rfl) rfl H1 ?_)
  refine bodyPost_ret (results_cell_row rfl _ _ w.heap.size 44 #[.func (.func 29) #[] #[], .func (.func 40) #[] #[.pointer (some ⟨b1, 0, none⟩)], .func (.func 40) #[] #[.pointer (some ⟨b2, 0, none⟩)], .func (.func 31) #[] #[], .func (.func 32) #[] #[], .func (.func 33) #[] #[], .func (.func 34) #[] #[], .func (.func 40) #[] #[.pointer (some ⟨b3, 0, none⟩)], .func (.func 40) #[] #[.pointer (some ⟨b4, 0, none⟩)], .func (.func 35) #[] #[], .func (.func 40) #[] #[.pointer (some ⟨b5, 0, none⟩)], .func (.func 36) #[] #[], .func (.func 37) #[] #[], .func (.func 40) #[] #[.pointer (some ⟨b6, 0, none⟩)], .func (.func 40) #[] #[.pointer (some ⟨b7, 0, none⟩)], .func (.func 38) #[] #[], .func (.func 40) #[] #[.pointer (some ⟨b8, 0, none⟩)], .func (.func 40) #[] #[.pointer (some ⟨b9, 0, none⟩)]] (0, 0) _ rfl (setRow_heap _ _ _ _ _ _ C9.out) Try.underlying44 rfl (by kernel_rfl)) rfl ⟨_, b1, b2, b3, b4, b5, b6, b7, b8, b9, rfl, ⟨fun _ => by kernel_rfl, fun _ => by kernel_rfl, fun _ => by kernel_rfl, fun _ => by kernel_rfl, fun _ => by kernel_rfl, fun _ => by kernel_rfl⟩, below_setRow B9.out (Nat.le_refl _) _, blk_setRow D1.out (Nat.ne_of_gt G1.out) _, blk_setRow D2.out (Nat.ne_of_gt G2.out) _, blk_setRow D3.out (Nat.ne_of_gt G3.out) _, blk_setRow D4.out (Nat.ne_of_gt G4.out) _, blk_setRow D5.out (Nat.ne_of_gt G5.out) _, blk_setRow D6.out (Nat.ne_of_gt G6.out) _, blk_setRow D7.out (Nat.ne_of_gt G7.out) _, blk_setRow D8.out (Nat.ne_of_gt G8.out) _, blk_setRow D9.out (Nat.ne_of_gt G9.out) _⟩

/-! ### pat_May: function 25 -/
def pat_May.f (a0 : Int) (a1 : Int) : Option (Bool) := if a0 ≥ 1 then (if a0 ≤ a1 then (some (decide (a1 ≤ 6))) else (some false)) else (some false)
set_option maxHeartbeats 8000000 in
set_option maxRecDepth 100000 in
theorem pat_May.calls (a0 : Int) (a1 : Int) (r : Bool) (w : World) (h : pat_May.f a0 a1 = some r) :
    Calls Try.prog 25 #[.int .i64 a0, .int .i64 a1] w fun e w' => e = .returned (.bool r) ∧ Drawn0 w w' := by
  have H : (if a0 ≥ 1 then (if a0 ≤ a1 then (some (decide (a1 ≤ 6))) else (some false)) else (some false)) = some r := h
  clear h
  by_cases c3 : a0 ≥ 1
  · rw [if_pos c3] at H
    have c3b0 : decide (1 ≤ a0) = true := decide_eq_true c3
    clear c3
    by_cases c4 : a0 ≤ a1
    · rw [if_pos c4] at H
      have c4b0 : decide (a0 ≤ a1) = true := decide_eq_true c4
      clear c4
      obtain rfl := Option.some.inj H
      go_enter Try.func25, Try.ntmps25
      go_wp2
      go_ret
      exact ⟨by first | rfl | (simp; done) | (simp [*]; done) | (exfalso; contradiction), by repeat (first | exact Drawn0.refl _ | apply Drawn0.step)⟩
    · rw [if_neg c4] at H
      have c4b0 : decide (a0 ≤ a1) = false := decide_eq_false c4
      clear c4
      obtain rfl := Option.some.inj H
      go_enter Try.func25, Try.ntmps25
      go_wp2
      go_ret
      exact ⟨by first | rfl | (simp; done) | (simp [*]; done) | (exfalso; contradiction), by repeat (first | exact Drawn0.refl _ | apply Drawn0.step)⟩
  · rw [if_neg c3] at H
    have c3b0 : decide (1 ≤ a0) = false := decide_eq_false c3
    clear c3
    obtain rfl := Option.some.inj H
    go_enter Try.func25, Try.ntmps25
    go_wp2
    go_ret
    exact ⟨by first | rfl | (simp; done) | (simp [*]; done) | (exfalso; contradiction), by repeat (first | exact Drawn0.refl _ | apply Drawn0.step)⟩

end Go.Proofs.Ytkcpkglplhgjfaa.P
